/- The functions that the law reaches in plain Lean, and that the calls come to what these say. No condition. (By wip/myprint.py, this session's program over the kit's print.) -/
import Derived.Test.YtefkpmbendploaaProg
import Derived.Below
import Derived.Deep.Draws
import Derived.Deep.AppendLies
import Derived.Maps.AppendAt
import Derived.OwnWalk
import Derived.Laws.BytesArg
import Derived.Laws.MakeOwn
import Derived.Laws.OwnMore
import Derived.Deep.OwnRows
import Derived.Tactics
import Derived.Lib.ConvBytes
import Derived.Laws.Slices
import Derived.WalkKit
import Derived.KernelRfl
import Derived.RowKit3
import Derived.Deep.LoopGhost
import Derived.Deep.QuietTactic
import Derived.BigQuiet
import Derived.WideLaws
import Derived.Deep.DeepCutAuto
import Derived.Deep.CutBlock
import Derived.Deep.RegionHeld3
import Derived.Laws.Rows
import Derived.Lib.AppendStr
import Derived.ArgAppend
import Derived.Laws.IdiomCopy
import Derived.OrdersHeld
import Derived.Laws.BitsLemmas
import Derived.RowKit
import Derived.OpenShut
import Derived.Test.YtefkpmbendploaaWWords
import Derived.Test.YtefkpmbendploaaWLast
import Derived.Test.YtefkpmbendploaaWTab
import Derived.Test.YtefkpmbendploaaWFour
import Derived.Test.YtefkpmbendploaaWQPut
import Derived.Test.YtefkpmbendploaaWApart
import Derived.Test.YtefkpmbendploaaWArr
import Derived.Test.YtefkpmbendploaaWZeros
import Derived.Test.YtefkpmbendploaaWFoot
import Derived.Test.YtefkpmbendploaaWKept
import Derived.Test.YtefkpmbendploaaWShare
import Derived.Test.YtefkpmbendploaaWN
import Derived.Test.YtefkpmbendploaaWFootNe
import Derived.Test.YtefkpmbendploaaWAt
import Derived.Test.YtefkpmbendploaaWEqStruct
import Derived.Test.YtefkpmbendploaaWRepsOne
import Derived.Test.YtefkpmbendploaaWInv
import Derived.Test.YtefkpmbendploaaWInvWords
import Derived.Test.YtefkpmbendploaaWGuard
import Derived.Test.YtefkpmbendploaaWNEv
import Derived.Test.YtefkpmbendploaaWMore
import Derived.RangeFuncBox
import Derived.RangeFuncNested
import Derived.RangeFuncBound
import Derived.RangeFuncCalls
import Derived.RangeFuncLeaves
import Derived.Shelf.Abstract
import Derived.Shelf.RegionOpen
import Derived.OwnWalkIn
import Derived.TacticsInMore
import Derived.LoopNIn
import Derived.LoopIn
import Derived.Test.YtefkpmbendploaaSteps
namespace Go.Proofs.Ytefkpmbendploaa.MVecTwice
open Go.RowKit Go.Proofs.YtefkpmbendploaaW.PrintWords Go.Proofs.YtefkpmbendploaaW.PrintLast Go.Proofs.YtefkpmbendploaaW.PrintMore
attribute [local go_sem] max2_int min2_int max_two min_two max_three min_three max_four min_four   -- for this text's walks alone
set_option linter.unusedVariables false
set_option linter.unusedSimpArgs false



def errW : Option Int → Value
  | none => .nilIface
  | some c => .iface 0 (.int .i64 c)
theorem errW_none : errW none = .nilIface := rfl
theorem errW_some (c : Int) : errW (some c) = .iface 0 (.int .i64 c) := rfl

theorem info3 : (Try.prog.info? 3).map (fun i => (i.zero, i.size, i.bytes)) = some (some (.int .i64 0), 1, 8) := by kernel_rfl
-- the values' own types
def rd_L1 (xs : List (List Int)) (i : Int) : (List Int) := xs.getD i.toNat ([] : List Int)
theorem at_L1 {w : World} {A : Option Addr} {n : Nat} {xs : List (List Int)} (h : Kd.C (Kd.slice 3 (Kd.int .i64)) w A n xs) (i : Int) (h0 : 0 ≤ i) (h1 : i < n) : ∃ ad A0 c0, A = some ad ∧ w.cell? (ad.add i.toNat) = some (.slice A0 (rd_L1 xs i).length c0) ∧ (rd_L1 xs i).length ≤ c0 ∧ (Kd.int .i64).C w A0 (rd_L1 xs i).length (rd_L1 xs i) := by
  obtain ⟨ad, c, e, _, hK, hc0⟩ := Kd.C_get h ([] : List Int) i h0 h1
  have hc : ∀ j u, c[j]? = some u → w.cell? (ad.add (i.toNat * 1 + j)) = some u := hc0
  obtain ⟨A0, c0, rfl, l0, g0⟩ := hK
  exact ⟨ad, A0, c0, e, by have hq := hc 0 _ rfl; rwa [Nat.mul_one, Nat.add_zero] at hq, l0, g0⟩

attribute [local go_sem] Oper.semAt_some
open Go.Shelf
/-- The numbers that are not 0. -/
def nz (l : List Int) : List Int := l.filter fun x => x != 0
theorem nz_hit (l : List Int) (k : Nat) (h : k < l.length) (hx : (rd l (k : Int) != 0) = true) : nz (l.take (k + 1)) = nz (l.take k) ++ [rd l (k : Int)] := by
  have e : rd l (k : Int) = l[k] := by unfold rd; rw [Int.toNat_natCast, List.getD_eq_getElem?_getD, List.getElem?_eq_getElem h]; rfl
  rw [e] at hx ⊢
  unfold nz
  rw [List.take_succ_eq_append_getElem h, List.filter_append]
  simp [hx]
theorem nz_miss (l : List Int) (k : Nat) (h : k < l.length) (hx : (rd l (k : Int) != 0) = false) : nz (l.take (k + 1)) = nz (l.take k) := by
  have e : rd l (k : Int) = l[k] := by unfold rd; rw [Int.toNat_natCast, List.getD_eq_getElem?_getD, List.getElem?_eq_getElem h]; rfl
  rw [e] at hx
  unfold nz
  rw [List.take_succ_eq_append_getElem h, List.filter_append]
  simp [hx]
theorem nz_prefix (l : List Int) (k : Nat) : nz (l.take k) <+: nz l := by
  unfold nz
  exact (List.take_prefix k l).filter _
theorem nz_len (l : List Int) : (nz l).length ≤ l.length := List.length_filter_le _ _
set_option maxRecDepth 100000 in
set_option maxHeartbeats 2000000 in
/-- vec.named's closure, for every loop body that keeps what lay below n₀. -/
theorem named1_in (F : Fence) (n : Nat) (h17 : F.fn 17) (hro : F.round = none) (hn : 1 ≤ n) (l Bs n₀ : Nat) (A : Option Addr) (c : Nat) (xs : List Int) (hcap : xs.length ≤ c) (hbig : xs.length ≤ 1000000) (J Jx : List Int → World → Prop)
    (hY : ∀ pre x W, J pre W → pre.length < xs.length → YieldAt F (n - 1) Try.prog l #[.int .i64 x] W fun e W' =>
      (e = .returned (.bool true) ∧ J (pre ++ [x]) W' ∧ Below n₀ W W') ∨ (e = .returned (.bool false) ∧ Jx (pre ++ [x]) W'))
    (W : World) (hBs : W.cell? ⟨Bs, 0, none⟩ = some (.slice A xs.length c)) (hC : ∀ W', Below n₀ W W' → Kd.C (Kd.int .i64) W' A xs.length xs) (h0 : J [] W) :
    CallsIn F n Try.prog 17 #[.func (.yield l) #[] #[], .pointer (some ⟨Bs, 0, none⟩)] W fun e W' => (∃ v, e = .returned v) ∧
      ((∃ ys, ys = nz xs ∧ J ys W') ∨ (∃ pre, pre <+: nz xs ∧ Jx pre W')) := by
  have HC := Aside0.mk hC
  clear hC
  refine callsIn_of_wp Try.func17 rfl h17 ?_ hro
  simp only [Try.ntmps17, List.size_toArray, List.length_cons, List.length_nil, Nat.reduceAdd, Nat.reduceSub, Array.replicate_succ, Array.replicate_zero, List.push_toArray, List.append_toArray, List.nil_append, List.cons_append]
  gi_wp2
  gi_loopw [7] (fun i wr => ∃ k : Nat, k ≤ xs.length ∧ i = .int .i64 k ∧ J (nz (xs.take k)) wr ∧ Below n₀ W wr)
    (fun i _ => xs.length - (intOf i).toNat)
  case atStart => exact ⟨0, Nat.zero_le _, rfl, by simpa [nz] using h0, Below.refl _ _⟩
  case round =>
    obtain ⟨k, hk, rfl, hJs, hnx⟩ := hrel
    by_cases hlt : k < xs.length
    · obtain ⟨ad, e, hcx⟩ := Kd.at_int (HC.out wr hnx) (k : Int) (by omega) (by omega)
      cases e
      rw [Int.toNat_natCast] at hcx
      cases hx : (rd xs (k : Int) != 0) with
      | true =>
        have HX := Aside0.mk hx
        obtain ⟨fn, tmps, assign, body, hy, hR⟩ := hY _ (rd xs (k : Int)) wr hJs (by have := nz_len (xs.take k); rw [List.length_take] at this; omega)
        gi_wp2
        refine hR.mono ?_
        rintro e W3 (⟨rfl, hJ3, hk3⟩ | ⟨rfl, hJx3⟩)
        · gi_wp2
          go_roundw
          case rel => exact ⟨k + 1, by omega, by simp, by rw [nz_hit xs k hlt HX.out]; exact hJ3, hnx.trans hk3⟩
          case measure => simp [intOf]; omega
        · gi_wp2
          refine bodyPost_ret (results_none rfl _ _ _) rfl ?_
          exact ⟨⟨_, rfl⟩, .inr ⟨_, by rw [← nz_hit xs k hlt HX.out]; exact nz_prefix _ _, hJx3⟩⟩
      | false =>
        have HX := Aside0.mk hx
        gi_wp2
        refine ⟨fun _ h => (by cases h), ?_⟩
        gi_wp2
        go_roundw
        case rel => exact ⟨k + 1, by omega, by simp, by rw [nz_miss xs k hlt HX.out]; exact hJs, hnx⟩
        case measure => simp [intOf]; omega
    · obtain rfl : k = xs.length := by omega
      gi_wp2
      go_end0
      exact ⟨⟨_, rfl⟩, .inl ⟨_, rfl, by simpa using hJs⟩⟩
theorem cell_new_l (W : World) (v : Value) (t : TypeId) : (W.alloc (.cells #[v] t)).cell? ⟨W.heap.size, 0, none⟩ = some v ∧ (W.alloc (.cells #[v] t)).frozen? ⟨W.heap.size, 0, none⟩ = false :=
  ⟨(Boxed.new W t v).cell, (Boxed.new W t v).frozen⟩
theorem cell_alloc_l {W : World} {a : Addr} {v : Value} (o : Obj) (h : W.cell? a = some v) : (W.alloc o).cell? a = some v := cell_kept h (World.grownBy_alloc W o none) (fun r e => by cases e)
theorem frozen_alloc_l {W : World} {a : Addr} {v : Value} (o : Obj) (h : W.cell? a = some v) (hf : W.frozen? a = false) : (W.alloc o).frozen? a = false := (frozen_kept h (World.grownBy_alloc W o none) (fun r e => by cases e)).trans hf
set_option maxHeartbeats 1000000 in
theorem named_in (F : Fence) (n : Nat) (h15 : F.fn 15) (hro : F.round = none) (A : Option Addr) (len cap : Nat) (w : World) :
    CallsIn F n Try.prog 15 #[.slice A len cap] w fun e w' => e = .returned (.func (.func 17) #[] #[.pointer (some ⟨w.heap.size, 0, none⟩)]) ∧ w' = w.alloc (.cells #[.slice A len cap] 22) := by
  refine callsIn_of_wp Try.func15 rfl h15 ?_ hro
  simp only [Try.ntmps15, List.size_toArray, List.length_cons, List.length_nil, Nat.reduceAdd, Nat.reduceSub, Array.replicate_succ, Array.replicate_zero, List.push_toArray, List.append_toArray, List.nil_append, List.cons_append]
  gi_wp2
  go_ret
  exact ⟨rfl, rfl⟩
theorem named_stops (F : Fence) (n : Nat) (h17 : F.fn 17) (hro : F.round = none) (hn : 1 ≤ n) (Bs n₀ : Nat) (A : Option Addr) (c : Nat) (xs : List Int) (hcap : xs.length ≤ c) (hbig : xs.length ≤ 1000000) (w : World) (hBs : Bs < w.heap.size) (hn₀ : n₀ ≤ w.heap.size)
    (hc : w.cell? ⟨Bs, 0, none⟩ = some (.slice A xs.length c)) (hC : ∀ W', Below n₀ w W' → Kd.C (Kd.int .i64) W' A xs.length xs) :
    SeqStopsK F n Try.prog 17 #[.pointer (some ⟨Bs, 0, none⟩)] (fun x : Int => #[Value.int .i64 x]) (Below n₀) (fun ys => ys = nz xs) (fun pre => pre <+: nz xs) xs.length w := fun l J Jx W hW _ _ hY h0 =>
  named1_in F n h17 hro hn l Bs n₀ A c xs hcap hbig J Jx hY W ((hW.cell (p := ⟨Bs, 0, none⟩) hBs).trans hc) (fun W' hb => hC W' ((hW.mono hn₀).trans hb)) h0
set_option maxRecDepth 100000 in
set_option maxHeartbeats 2000000 in
/-- slices.AppendSeq(nil, named(v)). -/
theorem appendSeq_in (F : Fence) (n : Nat) (h16 : F.fn 16) (h17 : F.fn 17) (hro : F.round = none) (hn : 2 ≤ n) (Bs : Nat) (A : Option Addr) (c : Nat) (xs : List Int) (hcap : xs.length ≤ c) (hbig : xs.length ≤ 1000000) (w : World) (hBs : Bs < w.heap.size)
    (hc : w.cell? ⟨Bs, 0, none⟩ = some (.slice A xs.length c)) (hC : ∀ W', Below w.heap.size w W' → Kd.C (Kd.int .i64) W' A xs.length xs) :
    CallsIn F n Try.prog 16 #[.slice none 0 0, .func (.func 17) #[] #[.pointer (some ⟨Bs, 0, none⟩)]] w fun e W' => ∃ v, e = .returned v ∧ W'.ownsRow w.heap.size 3 1 v (nz xs).length ((nz xs).map (Value.int .i64)) ∧ Below w.heap.size w W' := by
  have h1 : 1 ≤ n := by omega
  have HC := Aside0.mk hC
  clear hC
  obtain ⟨i0, hi, hz0, hz1, hz2⟩ := info_parts info3
  refine callsIn_of_wp_marks Try.func16 rfl h16 ?_ hro
  simp only [Try.ntmps16, List.size_toArray, List.length_cons, List.length_nil, Nat.reduceAdd, Nat.reduceSub, Array.replicate_succ, Array.replicate_zero, List.push_toArray, List.append_toArray, List.nil_append, List.cons_append]
  gi_wp2
  have bO := Boxed.new w 22 (.slice none 0 0)
  have hB0 : Below w.heap.size w (w.alloc (.cells #[.slice none 0 0] 22)) := (Below.refl _ w).alloc (Nat.le_refl _) _
  refine wpIn_rangeFunc_ownG hro h1 (gf := 17) (lb := #[.pointer (some ⟨Bs, 0, none⟩)]) rfl h17 (enters_of Try.func17 (by kernel_rfl) rfl)
    (named_stops F (n - 1) h17 hro (by omega) Bs w.heap.size A c xs hcap hbig _ (by simp; omega) (by simp) ((hB0.cell (p := ⟨Bs, 0, none⟩) hBs).trans hc) (fun W' hb => HC.out W' (hB0.trans hb))) belowK_t (belowK_b (by simp)) (Below.refl _ _) (fun _ => rfl)
    (fun pre W => (∃ v, Boxed W w.heap.size 22 v ∧ W.ownsRow w.heap.size 3 1 v pre.length (pre.map (Value.int .i64)) ∧ True) ∧ Below w.heap.size w W)
    (fun _ _ _ => False)
    (OwnFrom.and (Own.from (holdsRow_own w.heap.size w.heap.size 22 3 1 (fun pre : List Int => pre.length) (fun pre : List Int => pre.map (Value.int .i64)) (fun _ _ => True)) _) (ownFrom_below (Nat.le_refl _) (by simp)))
    (fun _ _ _ _ _ hs _ _ => hs)
    ⟨⟨_, bO, World.ownsRow_nil _ _ _ _, trivial⟩, hB0⟩
    (fun x => { tmps := #[.slice none 0 0, .func (.func 17) #[] #[.pointer (some ⟨Bs, 0, none⟩)], .pointer (some ⟨w.heap.size, 0, none⟩), undef, .slice none 0 0, .int .i64 x, .func (.func 17) #[] #[.pointer (some ⟨Bs, 0, none⟩)], .int .i64 x, undef, undef, undef, undef, undef], defers := [] }) ?assign ?body ?done ?stop
  case assign =>
    intro l x W K hK
    gi_wp2
    exact hK
  case body =>
    rintro l pre x W ⟨⟨v, hv, hrow, -⟩, hB⟩ hlt
    have hc2 := hv.cell
    gi_wp2_with (gi_at_builtin; refine wpListIn_append_own _ rfl _ _ 22 rfl w.heap.size 3 i0 (.int .i64 0) 1 8 Try.underlying22 hi hz0 hz1 hz2 rfl (by decide) _ _ _ rfl (hrow.alloc _) ⟨W.heap.size, 0, none⟩ 1 1 [.int .i64 x] rfl rfl (cell_one_new _ _ _) (by simp [Value.oneCell']) (by unfold maxLen; omega) (by omega) (by have := hB.size; simp; omega) ?_; intro v' w1 hown' hgrow _; obtain ⟨g', cap', rfl⟩ := ownsRow_succ hown'; obtain ⟨hv1, hv2, hr2, hk2, hb2⟩ := hv.appended (by decide) hrow hB.size (Nat.le_refl _) hown' hgrow; have hc1 := hv1.cell; have hf1 := hv1.frozen)
    exact ⟨hk2.from _, hb2, ⟨_, hv2, by simpa using hr2, trivial⟩, hB.trans hb2⟩
  case done =>
    rintro D ys W hD rfl ⟨⟨v, hv, hrow, -⟩, hB⟩ hK
    have hc2 := hv.cell
    gi_wp2
    refine ⟨by simp, .inl ⟨_, _, rfl, run_takeDeferred hK, ?_⟩⟩
    exact ⟨_, results_tmp rfl _ _ _, v, rfl, ownsRow_putObj hrow _ hK rfl, hB.trans (belowK_b (w := w) (Nat.le_refl _) W D _ _ (by simp at hD; omega) hK rfl rfl)⟩
  case stop =>
    rintro D c pre W _ _ h _
    exact h.elim
set_option maxHeartbeats 1000000 in
theorem collect_in (F : Fence) (n : Nat) (h14 : F.fn 14) (h16 : F.fn 16) (h17 : F.fn 17) (hro : F.round = none) (hn : 3 ≤ n) (Bs : Nat) (A : Option Addr) (c : Nat) (xs : List Int) (hcap : xs.length ≤ c) (hbig : xs.length ≤ 1000000) (w : World) (hBs : Bs < w.heap.size)
    (hc : w.cell? ⟨Bs, 0, none⟩ = some (.slice A xs.length c)) (hC : ∀ W', Below w.heap.size w W' → Kd.C (Kd.int .i64) W' A xs.length xs) :
    CallsIn F n Try.prog 14 #[.func (.func 17) #[] #[.pointer (some ⟨Bs, 0, none⟩)]] w fun e W' => ∃ v, e = .returned v ∧ W'.ownsRow w.heap.size 3 1 v (nz xs).length ((nz xs).map (Value.int .i64)) ∧ Below w.heap.size w W' := by
  have h1 : 1 ≤ n := by omega
  have HC := Aside0.mk hC
  clear hC
  refine callsIn_of_wp Try.func14 rfl h14 ?_ hro
  simp only [Try.ntmps14, List.size_toArray, List.length_cons, List.length_nil, Nat.reduceAdd, Nat.reduceSub, Array.replicate_succ, Array.replicate_zero, List.push_toArray, List.append_toArray, List.nil_append, List.cons_append]
  gi_wp2_with (gi_at_call 16; refine (appendSeq_in F (n - 1) h16 h17 hro (by omega) Bs A c xs hcap hbig _ hBs hc HC.out).mono ?_; rintro e w' ⟨v, rfl, ho, hb⟩)
  go_ret
  exact ⟨v, rfl, ho, hb⟩
theorem R_of_own {w0 : Nat} {W : World} {v : Value} {xs : List Int} (h : W.ownsRow w0 3 1 v xs.length (xs.map (Value.int .i64))) : Kd.R (Kd.int .i64) 3 W w0 (fun k => w0 ≤ k) v xs := by
  refine ⟨fun k hk => own_base h k hk, xs.map (Value.int .i64), h, by simp [Kd.int, Kd.scalar], fun j p hj => ?_⟩
  show List.take 1 (List.drop (j * 1) (xs.map (Value.int .i64))) = [Value.int .i64 p]
  have hlt : j < xs.length := (List.getElem?_eq_some_iff.1 hj).1
  have e : xs[j] = p := (List.getElem?_eq_some_iff.1 hj).2
  rw [Nat.mul_one, List.drop_eq_getElem_cons (by simpa using hlt)]
  simp [e]
theorem ownsRow_le {W : World} {b b' e sz : Nat} {v : Value} {n : Nat} {xs : List Value} (h : W.ownsRow b e sz v n xs) (hb : b' ≤ b) : W.ownsRow b' e sz v n xs := by
  obtain ⟨h1, h2 | ⟨g, cap, cur, e1, e2, e3⟩⟩ := h
  · exact ⟨h1, .inl h2⟩
  · exact ⟨h1, .inr ⟨g, cap, cur, e1, Nat.le_trans hb e2, e3⟩⟩
/-- How often h stands in the row. -/
def cn (l : List Int) (h : Int) : Int := ((l.filter fun x => x == h).length : Int)
theorem cn_snoc (l : List Int) (x h : Int) : cn (l ++ [x]) h = if x = h then cn l h + 1 else cn l h := by
  unfold cn
  rw [List.filter_append]
  by_cases e : x = h
  · simp [e]
  · simp [e]
theorem cn_range (l : List Int) (h : Int) : 0 ≤ cn l h ∧ cn l h ≤ (l.length : Int) := by
  unfold cn
  have := List.length_filter_le (fun x => x == h) l
  omega
set_option maxRecDepth 100000 in
set_option maxHeartbeats 2000000 in
theorem count_in (F : Fence) (n : Nat) (h11 : F.fn 11) (h15 : F.fn 15) (h17 : F.fn 17) (hro : F.round = none) (hn : 3 ≤ n) (A : Option Addr) (c : Nat) (xs : List Int) (hv : Int) (hcap : xs.length ≤ c) (hbig : xs.length ≤ 1000000) (w : World) (hC : Kd.C (Kd.int .i64) w A xs.length xs) :
    CallsIn F n Try.prog 11 #[.slice A xs.length c, .int .i64 hv] w fun e W' => e = .returned (.int .i64 (cn (nz xs) hv)) ∧ Below w.heap.size w W' := by
  have h1 : 1 ≤ n := by omega
  refine callsIn_of_wp_marks Try.func11 rfl h11 ?_ hro
  simp only [Try.ntmps11, List.size_toArray, List.length_cons, List.length_nil, Nat.reduceAdd, Nat.reduceSub, Array.replicate_succ, Array.replicate_zero, List.push_toArray, List.append_toArray, List.nil_append, List.cons_append]
  gi_wp2_with (gi_at_call 15; refine (named_in F (n - 1) h15 hro _ _ _ _).mono ?_; rintro e w' ⟨rfl, rfl⟩)
  have c0 := cell_new_l w (.int .i64 hv) 3
  have c1 := cell_new_l (w.alloc (.cells #[.int .i64 hv] 3)) (.int .i64 0) 3
  have c2 := cell_new_l ((w.alloc (.cells #[.int .i64 hv] 3)).alloc (.cells #[.int .i64 0] 3)) (.slice A xs.length c) 22
  simp only [World.size_alloc] at c1 c2
  have hB0 : Below w.heap.size w (((w.alloc (.cells #[.int .i64 hv] 3)).alloc (.cells #[.int .i64 0] 3)).alloc (.cells #[.slice A xs.length c] 22)) := (((Below.refl _ w).alloc (Nat.le_refl _) _).alloc (by simp) _).alloc (by simp; omega) _
  refine wpIn_rangeFunc_ownG hro h1 (gf := 17) (lb := #[.pointer (some ⟨w.heap.size + 1 + 1, 0, none⟩)]) rfl h17 (enters_of Try.func17 (by kernel_rfl) rfl)
    (named_stops F (n - 1) h17 hro (by omega) (w.heap.size + 1 + 1) w.heap.size A c xs hcap hbig _ (by simp) (by simp; omega) c2.1 (fun W' hb => Kd.C_below hC (hB0.trans hb))) belowK_t (belowK_b (by simp; omega)) (Below.refl _ _) (fun _ => rfl)
    (fun pre W => (W.cell? ⟨w.heap.size, 0, none⟩ = some (.int .i64 hv) ∧ W.cell? ⟨w.heap.size + 1, 0, none⟩ = some (.int .i64 (cn pre hv)) ∧ W.frozen? ⟨w.heap.size + 1, 0, none⟩ = false) ∧ Below w.heap.size w W)
    (fun _ _ _ => False)
    (OwnFrom.and (Own.from (fun s A B row hs hg hr => ⟨cell_kept hs.1 hg hr, cell_kept hs.2.1 hg hr, (frozen_kept hs.2.1 hg hr).trans hs.2.2⟩) _) (ownFrom_below (Nat.le_refl _) (by simp; omega)))
    (fun _ _ _ _ _ hs _ _ => hs)
    ⟨⟨cell_alloc_l _ (cell_alloc_l _ c0.1), cell_alloc_l _ c1.1, frozen_alloc_l _ c1.1 c1.2⟩, hB0⟩
    (fun x => { tmps := #[.slice A xs.length c, .int .i64 hv, undef, .pointer (some ⟨w.heap.size, 0, none⟩), .pointer (some ⟨w.heap.size + 1, 0, none⟩), .int .i64 x, .slice A xs.length c, .func (.func 17) #[] #[.pointer (some ⟨w.heap.size + 1 + 1, 0, none⟩)], .int .i64 x, undef, undef, undef, undef, undef, undef], defers := [] }) ?assign ?body ?done ?stop
  case assign =>
    intro l x W K hK
    gi_wp2
    exact hK
  case body =>
    rintro l pre x W ⟨⟨hch, hcn, hfn⟩, hB⟩ hlt
    have hr := cn_range pre hv
    have hs := cn_snoc pre x hv
    by_cases hx : x = hv
    · subst hx
      rw [if_pos rfl] at hs
      gi_wp2
      have ew : Go.RowKit.wrap64 (cn pre x + 1) = cn pre x + 1 := Go.IntWalk.wrap64_in _ (by omega)
      exact ⟨(KeepsOthers.setCell _ _ _).from _, (Below.refl w.heap.size W).setCell (p := ⟨w.heap.size + 1, 0, none⟩) (by simp) _, ⟨(World.cell?_setCell_other _ _ _ _ (by simp)).trans hch, by rw [hs]; exact World.cell?_setCell_same' _ _ _ (by rw [hcn]; rfl), by rw [World.frozen?_setCell]; exact hfn⟩, hB.setCell (p := ⟨w.heap.size + 1, 0, none⟩) (by simp) _⟩
    · rw [if_neg hx] at hs
      gi_wp2
      exact ⟨(KeepsOthers.refl _).from _, Below.refl _ _, ⟨hch, by rw [hs]; exact hcn, hfn⟩, hB⟩
  case done =>
    rintro D ys W hD rfl ⟨⟨hch, hcn, hfn⟩, hB⟩ hK
    gi_wp2
    have hK' := (KeepsOthers.setCell W ⟨w.heap.size + 1, 0, none⟩ (.int .i64 (cn (nz xs) hv))).same D _ hK rfl
    refine ⟨by simp, .inl ⟨_, _, rfl, run_takeDeferred hK', ?_⟩⟩
    have hc5 := cell_kept (World.cell?_setCell_same' W ⟨w.heap.size + 1, 0, none⟩ (.int .i64 (cn (nz xs) hv)) (by rw [hcn]; rfl)) (grownBy_putObj' _ D (.deferred none)) (fun r e => by cases e; exact ⟨_, hK', rfl⟩)
    refine ⟨.int .i64 (cn (nz xs) hv), ?_, rfl, (hB.setCell (p := ⟨w.heap.size + 1, 0, none⟩) (by simp) _).trans (belowK_b (w := w) (Nat.le_refl _) _ D _ _ (by simp at hD; omega) hK' rfl rfl)⟩
    simp [results, Try.f11, go_sem, hc5]
  case stop =>
    rintro D c pre W _ _ h _
    exact h.elim
open Go.Proofs.Ytefkpmbendploaa

end Go.Proofs.Ytefkpmbendploaa.MVecTwice
