/- Who names whom: the walk from name to name. Conditions: those of each lemma. -/
import Derived.Test.YtkmjboeabmmecaaProg
import Derived.Below
import Derived.Deep.Draws
import Derived.Deep.AppendLies
import Derived.Maps.AppendAt
import Derived.OwnWalk
import Derived.Laws.BytesArg
import Derived.Laws.MakeOwn
import Derived.Laws.OwnMore
import Derived.Deep.OwnRows
import Derived.Tactics
import Derived.Lib.ConvBytes
import Derived.Laws.Slices
import Derived.WalkKit
import Derived.KernelRfl
import Derived.RowKit3
import Derived.Deep.LoopGhost
import Derived.Deep.QuietTactic
import Derived.BigQuiet
import Derived.WideLaws
import Derived.Deep.DeepCutAuto
import Derived.Deep.CutBlock
import Derived.Deep.RegionHeld3
import Derived.Laws.Rows
import Derived.Lib.AppendStr
import Derived.ArgAppend
import Derived.Laws.IdiomCopy
import Derived.OrdersHeld
import Derived.Laws.BitsLemmas
import Derived.RowKit
import Derived.OpenShut
import Derived.Test.YtkmjboeabmmecaaWWords
import Derived.Test.YtkmjboeabmmecaaWLast
import Derived.Test.YtkmjboeabmmecaaWTab
import Derived.Test.YtkmjboeabmmecaaWQPut
import Derived.Test.YtkmjboeabmmecaaWApart
import Derived.Test.YtkmjboeabmmecaaWArr
import Derived.Test.YtkmjboeabmmecaaWZeros
import Derived.Test.YtkmjboeabmmecaaWFoot
import Derived.Test.YtkmjboeabmmecaaWKept
import Derived.Test.YtkmjboeabmmecaaWShare
import Derived.Test.YtkmjboeabmmecaaWN
import Derived.Test.YtkmjboeabmmecaaWEqStruct
import Derived.Test.YtkmjboeabmmecaaWRepsOne
import Derived.Test.YtkmjboeabmmecaaWGuard
import Derived.Test.YtkmjboeabmmecaaWNEv
import Derived.Test.YtkmjboeabmmecaaWMore
import Derived.Test.YtkmjboeabmmecaaArr4
import Derived.Test.YtkmjboeabmmecaaSteps
import Derived.Test.YtkmjboeabmmecaaMAllx0
import Derived.RangeFuncBox
import Derived.RangeFuncNested
import Derived.RangeFuncBound
import Derived.RangeFuncCalls
import Derived.RangeFuncLeaves
import Derived.Shelf.Abstract
import Derived.Shelf.RegionOpen
import Derived.OwnWalkIn
import Derived.TacticsInMore
import Derived.LoopNIn
import Derived.LoopIn
import Derived.RegionTactic
import Derived.WalkSpells
import Derived.Lib.SliceRun
import Derived.Deep.Cut
import Derived.Test.YtkmjboeabmmecaaCopy
import Derived.Test.YtkmjboeabmmecaaMAllx6
import Derived.Test.YtkmjboeabmmecaaHndE
import Derived.WalkMore
namespace Go.Proofs.Ytkmjboeabmmecaa.MAll
open Go.RowKit Go.Proofs.YtkmjboeabmmecaaW.PrintWords Go.Proofs.YtkmjboeabmmecaaW.PrintLast Go.Proofs.YtkmjboeabmmecaaW.PrintMore
attribute [local go_sem] max2_int min2_int max_two min_two max_three min_three max_four min_four   -- for this text's walks alone
set_option linter.unusedVariables false
set_option linter.unusedSimpArgs false
attribute [local go_sem] Oper.semAt_some
open Go.Shelf Go.Proofs.Ytkmjboeabmmecaa
/-- The numbers that are not 0. -/
def nz (l : List Int) : List Int := l.filter fun x => x != 0
theorem nz_hit (l : List Int) (k : Nat) (h : k < l.length) (hx : (rd l (k : Int) != 0) = true) : nz (l.take (k + 1)) = nz (l.take k) ++ [rd l (k : Int)] := by
  have e : rd l (k : Int) = l[k] := by unfold rd; rw [Int.toNat_natCast, List.getD_eq_getElem?_getD, List.getElem?_eq_getElem h]; rfl
  rw [e] at hx ⊢
  unfold nz
  rw [List.take_succ_eq_append_getElem h, List.filter_append]
  simp [hx]
theorem nz_miss (l : List Int) (k : Nat) (h : k < l.length) (hx : (rd l (k : Int) != 0) = false) : nz (l.take (k + 1)) = nz (l.take k) := by
  have e : rd l (k : Int) = l[k] := by unfold rd; rw [Int.toNat_natCast, List.getD_eq_getElem?_getD, List.getElem?_eq_getElem h]; rfl
  rw [e] at hx
  unfold nz
  rw [List.take_succ_eq_append_getElem h, List.filter_append]
  simp [hx]
theorem nz_prefix (l : List Int) (k : Nat) : nz (l.take k) <+: nz l := by
  unfold nz
  exact (List.take_prefix k l).filter _
theorem nz_len (l : List Int) : (nz l).length ≤ l.length := List.length_filter_le _ _
set_option maxRecDepth 100000 in
set_option maxHeartbeats 2000000 in
/-- vec.named's closure, for every loop body that keeps what lay below n₀. -/
theorem named1_in (F : Fence) (n : Nat) (h17 : F.fn 133) (hro : F.round = none) (hn : 1 ≤ n) (l Bs n₀ : Nat) (A : Option Addr) (c : Nat) (xs : List Int) (hcap : xs.length ≤ c) (hbig : xs.length ≤ 1000000) (J Jx : List Int → World → Prop)
    (hY : ∀ pre x W, J pre W → pre.length < xs.length → YieldAt F (n - 1) Try.prog l #[.int .i64 x] W fun e W' =>
      (e = .returned (.bool true) ∧ J (pre ++ [x]) W' ∧ Below n₀ W W') ∨ (e = .returned (.bool false) ∧ Jx (pre ++ [x]) W'))
    (W : World) (hBs : W.cell? ⟨Bs, 0, none⟩ = some (.slice A xs.length c)) (hC : ∀ W', Below n₀ W W' → Kd.C (Kd.int .i64) W' A xs.length xs) (h0 : J [] W) :
    CallsIn F n Try.prog 133 #[.func (.yield l) #[] #[], .pointer (some ⟨Bs, 0, none⟩)] W fun e W' => (∃ v, e = .returned v) ∧
      ((∃ ys, ys = nz xs ∧ J ys W') ∨ (∃ pre, pre <+: nz xs ∧ Jx pre W')) := by
  have HC := Aside0.mk hC
  clear hC
  refine callsIn_of_wp Try.func133 rfl h17 ?_ hro
  simp only [Try.ntmps133, List.size_toArray, List.length_cons, List.length_nil, Nat.reduceAdd, Nat.reduceSub, Array.replicate_succ, Array.replicate_zero, List.push_toArray, List.append_toArray, List.nil_append, List.cons_append]
  gi_wp2
  gi_loopw [7] (fun i wr => ∃ k : Nat, k ≤ xs.length ∧ i = .int .i64 k ∧ J (nz (xs.take k)) wr ∧ Below n₀ W wr)
    (fun i _ => xs.length - (intOf i).toNat)
  case atStart => exact ⟨0, Nat.zero_le _, rfl, by simpa [nz] using h0, Below.refl _ _⟩
  case round =>
    obtain ⟨k, hk, rfl, hJs, hnx⟩ := hrel
    by_cases hlt : k < xs.length
    · obtain ⟨ad, e, hcx⟩ := Kd.at_int (HC.out wr hnx) (k : Int) (by omega) (by omega)
      cases e
      rw [Int.toNat_natCast] at hcx
      cases hx : (rd xs (k : Int) != 0) with
      | true =>
        have HX := Aside0.mk hx
        obtain ⟨fn, tmps, assign, body, hy, hR⟩ := hY _ (rd xs (k : Int)) wr hJs (by have := nz_len (xs.take k); rw [List.length_take] at this; omega)
        gi_wp2
        refine hR.mono ?_
        rintro e W3 (⟨rfl, hJ3, hk3⟩ | ⟨rfl, hJx3⟩)
        · gi_wp2
          go_roundw
          case rel => exact ⟨k + 1, by omega, by simp, by rw [nz_hit xs k hlt HX.out]; exact hJ3, hnx.trans hk3⟩
          case measure => simp [intOf]; omega
        · gi_wp2
          refine bodyPost_ret (results_none rfl _ _ _) rfl ?_
          exact ⟨⟨_, rfl⟩, .inr ⟨_, by rw [← nz_hit xs k hlt HX.out]; exact nz_prefix _ _, hJx3⟩⟩
      | false =>
        have HX := Aside0.mk hx
        gi_wp2
        refine ⟨fun _ h => (by cases h), ?_⟩
        gi_wp2
        go_roundw
        case rel => exact ⟨k + 1, by omega, by simp, by rw [nz_miss xs k hlt HX.out]; exact hJs, hnx⟩
        case measure => simp [intOf]; omega
    · obtain rfl : k = xs.length := by omega
      gi_wp2
      go_end0
      exact ⟨⟨_, rfl⟩, .inl ⟨_, rfl, by simpa using hJs⟩⟩
set_option maxHeartbeats 1000000 in
theorem named_in (F : Fence) (n : Nat) (h15 : F.fn 107) (hro : F.round = none) (A : Option Addr) (len cap : Nat) (w : World) :
    CallsIn F n Try.prog 107 #[.slice A len cap] w fun e w' => e = .returned (.func (.func 133) #[] #[.pointer (some ⟨w.heap.size, 0, none⟩)]) ∧ w' = w.alloc (.cells #[.slice A len cap] 27) := by
  refine callsIn_of_wp Try.func107 rfl h15 ?_ hro
  simp only [Try.ntmps107, List.size_toArray, List.length_cons, List.length_nil, Nat.reduceAdd, Nat.reduceSub, Array.replicate_succ, Array.replicate_zero, List.push_toArray, List.append_toArray, List.nil_append, List.cons_append]
  gi_wp2
  go_ret
  exact ⟨rfl, rfl⟩
theorem named_stops (F : Fence) (n : Nat) (h17 : F.fn 133) (hro : F.round = none) (hn : 1 ≤ n) (Bs n₀ : Nat) (A : Option Addr) (c : Nat) (xs : List Int) (hcap : xs.length ≤ c) (hbig : xs.length ≤ 1000000) (w : World) (hBs : Bs < w.heap.size) (hn₀ : n₀ ≤ w.heap.size)
    (hc : w.cell? ⟨Bs, 0, none⟩ = some (.slice A xs.length c)) (hC : ∀ W', Below n₀ w W' → Kd.C (Kd.int .i64) W' A xs.length xs) :
    SeqStopsK F n Try.prog 133 #[.pointer (some ⟨Bs, 0, none⟩)] (fun x : Int => #[Value.int .i64 x]) (Below n₀) (fun ys => ys = nz xs) (fun pre => pre <+: nz xs) xs.length w := fun l J Jx W hW _ _ hY h0 =>
  named1_in F n h17 hro hn l Bs n₀ A c xs hcap hbig J Jx hY W ((hW.cell (p := ⟨Bs, 0, none⟩) hBs).trans hc) (fun W' hb => hC W' ((hW.mono hn₀).trans hb)) h0
set_option maxRecDepth 100000 in
set_option maxHeartbeats 2000000 in
/-- slices.AppendSeq(nil, named(v)). -/
theorem appendSeq_in (F : Fence) (n : Nat) (h16 : F.fn 132) (h17 : F.fn 133) (hro : F.round = none) (hn : 2 ≤ n) (Bs : Nat) (A : Option Addr) (c : Nat) (xs : List Int) (hcap : xs.length ≤ c) (hbig : xs.length ≤ 1000000) (w : World) (hBs : Bs < w.heap.size)
    (hc : w.cell? ⟨Bs, 0, none⟩ = some (.slice A xs.length c)) (hC : ∀ W', Below w.heap.size w W' → Kd.C (Kd.int .i64) W' A xs.length xs) :
    CallsIn F n Try.prog 132 #[.slice none 0 0, .func (.func 133) #[] #[.pointer (some ⟨Bs, 0, none⟩)]] w fun e W' => ∃ v, e = .returned v ∧ W'.ownsRow w.heap.size 3 1 v (nz xs).length ((nz xs).map (Value.int .i64)) ∧ Below w.heap.size w W' := by
  have h1 : 1 ≤ n := by omega
  have HC := Aside0.mk hC
  clear hC
  obtain ⟨i0, hi, hz0, hz1, hz2⟩ := info_parts info3
  refine callsIn_of_wp_marks Try.func132 rfl h16 ?_ hro
  simp only [Try.ntmps132, List.size_toArray, List.length_cons, List.length_nil, Nat.reduceAdd, Nat.reduceSub, Array.replicate_succ, Array.replicate_zero, List.push_toArray, List.append_toArray, List.nil_append, List.cons_append]
  gi_wp2
  have bO := Boxed.new w 27 (.slice none 0 0)
  have hB0 : Below w.heap.size w (w.alloc (.cells #[.slice none 0 0] 27)) := (Below.refl _ w).alloc (Nat.le_refl _) _
  refine wpIn_rangeFunc_ownG hro h1 (gf := 133) (lb := #[.pointer (some ⟨Bs, 0, none⟩)]) rfl h17 (enters_of Try.func133 (by kernel_rfl) rfl)
    (named_stops F (n - 1) h17 hro (by omega) Bs w.heap.size A c xs hcap hbig _ (by simp; omega) (by simp) ((hB0.cell (p := ⟨Bs, 0, none⟩) hBs).trans hc) (fun W' hb => HC.out W' (hB0.trans hb))) belowK_t (belowK_b (by simp)) (Below.refl _ _) (fun _ => rfl)
    (fun pre W => (∃ v, Boxed W w.heap.size 27 v ∧ W.ownsRow w.heap.size 3 1 v pre.length (pre.map (Value.int .i64)) ∧ True) ∧ Below w.heap.size w W)
    (fun _ _ _ => False)
    (OwnFrom.and (Own.from (holdsRow_own w.heap.size w.heap.size 27 3 1 (fun pre : List Int => pre.length) (fun pre : List Int => pre.map (Value.int .i64)) (fun _ _ => True)) _) (ownFrom_below (Nat.le_refl _) (by simp)))
    (fun _ _ _ _ _ hs _ _ => hs)
    ⟨⟨_, bO, World.ownsRow_nil _ _ _ _, trivial⟩, hB0⟩
    (fun x => { tmps := #[.slice none 0 0, .func (.func 133) #[] #[.pointer (some ⟨Bs, 0, none⟩)], .pointer (some ⟨w.heap.size, 0, none⟩), undef, .slice none 0 0, .int .i64 x, .func (.func 133) #[] #[.pointer (some ⟨Bs, 0, none⟩)], .int .i64 x, undef, undef, undef, undef, undef], defers := [] }) ?assign ?body ?done ?stop
  case assign =>
    intro l x W K hK
    gi_wp2
    exact hK
  case body =>
    rintro l pre x W ⟨⟨v, hv, hrow, -⟩, hB⟩ hlt
    have hc2 := hv.cell
    gi_wp2_with (gi_at_builtin; refine wpListIn_append_own _ rfl _ _ 27 rfl w.heap.size 3 i0 (.int .i64 0) 1 8 Try.underlying27 hi hz0 hz1 hz2 rfl (by decide) _ _ _ rfl (hrow.alloc _) ⟨W.heap.size, 0, none⟩ 1 1 [.int .i64 x] rfl rfl (cell_one_new _ _ _) (by simp [Value.oneCell']) (by unfold maxLen; omega) (by omega) (by have := hB.size; simp; omega) ?_; intro v' w1 hown' hgrow _; obtain ⟨g', cap', rfl⟩ := ownsRow_succ hown'; obtain ⟨hv1, hv2, hr2, hk2, hb2⟩ := hv.appended (by decide) hrow hB.size (Nat.le_refl _) hown' hgrow; have hc1 := hv1.cell; have hf1 := hv1.frozen)
    exact ⟨hk2.from _, hb2, ⟨_, hv2, by simpa using hr2, trivial⟩, hB.trans hb2⟩
  case done =>
    rintro D ys W hD rfl ⟨⟨v, hv, hrow, -⟩, hB⟩ hK
    have hc2 := hv.cell
    gi_wp2
    refine ⟨by simp, .inl ⟨_, _, rfl, run_takeDeferred hK, ?_⟩⟩
    exact ⟨_, results_tmp rfl _ _ _, v, rfl, ownsRow_putObj hrow _ hK rfl, hB.trans (belowK_b (w := w) (Nat.le_refl _) W D _ _ (by simp at hD; omega) hK rfl rfl)⟩
  case stop =>
    rintro D c pre W _ _ h _
    exact h.elim
set_option maxHeartbeats 1000000 in
theorem collect_in (F : Fence) (n : Nat) (h14 : F.fn 106) (h16 : F.fn 132) (h17 : F.fn 133) (hro : F.round = none) (hn : 3 ≤ n) (Bs : Nat) (A : Option Addr) (c : Nat) (xs : List Int) (hcap : xs.length ≤ c) (hbig : xs.length ≤ 1000000) (w : World) (hBs : Bs < w.heap.size)
    (hc : w.cell? ⟨Bs, 0, none⟩ = some (.slice A xs.length c)) (hC : ∀ W', Below w.heap.size w W' → Kd.C (Kd.int .i64) W' A xs.length xs) :
    CallsIn F n Try.prog 106 #[.func (.func 133) #[] #[.pointer (some ⟨Bs, 0, none⟩)]] w fun e W' => ∃ v, e = .returned v ∧ W'.ownsRow w.heap.size 3 1 v (nz xs).length ((nz xs).map (Value.int .i64)) ∧ Below w.heap.size w W' := by
  have h1 : 1 ≤ n := by omega
  have HC := Aside0.mk hC
  clear hC
  refine callsIn_of_wp Try.func106 rfl h14 ?_ hro
  simp only [Try.ntmps106, List.size_toArray, List.length_cons, List.length_nil, Nat.reduceAdd, Nat.reduceSub, Array.replicate_succ, Array.replicate_zero, List.push_toArray, List.append_toArray, List.nil_append, List.cons_append]
  gi_wp2_with (gi_at_call 132; refine (appendSeq_in F (n - 1) h16 h17 hro (by omega) Bs A c xs hcap hbig _ hBs hc HC.out).mono ?_; rintro e w' ⟨v, rfl, ho, hb⟩)
  go_ret
  exact ⟨v, rfl, ho, hb⟩
theorem R_of_own {w0 : Nat} {W : World} {v : Value} {xs : List Int} (h : W.ownsRow w0 3 1 v xs.length (xs.map (Value.int .i64))) : Kd.R (Kd.int .i64) 3 W w0 (fun k => w0 ≤ k) v xs := by
  refine ⟨fun k hk => own_base h k hk, xs.map (Value.int .i64), h, by simp [Kd.int, Kd.scalar], fun j p hj => ?_⟩
  show List.take 1 (List.drop (j * 1) (xs.map (Value.int .i64))) = [Value.int .i64 p]
  have hlt : j < xs.length := (List.getElem?_eq_some_iff.1 hj).1
  have e : xs[j] = p := (List.getElem?_eq_some_iff.1 hj).2
  rw [Nat.mul_one, List.drop_eq_getElem_cons (by simpa using hlt)]
  simp [e]
theorem ownsRow_le {W : World} {b b' e sz : Nat} {v : Value} {n : Nat} {xs : List Value} (h : W.ownsRow b e sz v n xs) (hb : b' ≤ b) : W.ownsRow b' e sz v n xs := by
  obtain ⟨h1, h2 | ⟨g, cap, cur, e1, e2, e3⟩⟩ := h
  · exact ⟨h1, .inl h2⟩
  · exact ⟨h1, .inr ⟨g, cap, cur, e1, Nat.le_trans hb e2, e3⟩⟩
/-- How often h stands in the row. -/
def cn (l : List Int) (h : Int) : Int := ((l.filter fun x => x == h).length : Int)
theorem cn_snoc (l : List Int) (x h : Int) : cn (l ++ [x]) h = if x = h then cn l h + 1 else cn l h := by
  unfold cn
  rw [List.filter_append]
  by_cases e : x = h
  · simp [e]
  · simp [e]
theorem cn_range (l : List Int) (h : Int) : 0 ≤ cn l h ∧ cn l h ≤ (l.length : Int) := by
  unfold cn
  have := List.length_filter_le (fun x => x == h) l
  omega
set_option maxRecDepth 100000 in
set_option maxHeartbeats 2000000 in
theorem count_in (F : Fence) (n : Nat) (h11 : F.fn 78) (h15 : F.fn 107) (h17 : F.fn 133) (hro : F.round = none) (hn : 3 ≤ n) (A : Option Addr) (c : Nat) (xs : List Int) (hv : Int) (hcap : xs.length ≤ c) (hbig : xs.length ≤ 1000000) (w : World) (hC : Kd.C (Kd.int .i64) w A xs.length xs) :
    CallsIn F n Try.prog 78 #[.slice A xs.length c, .int .i64 hv] w fun e W' => e = .returned (.int .i64 (cn (nz xs) hv)) ∧ Below w.heap.size w W' := by
  have h1 : 1 ≤ n := by omega
  refine callsIn_of_wp_marks Try.func78 rfl h11 ?_ hro
  simp only [Try.ntmps78, List.size_toArray, List.length_cons, List.length_nil, Nat.reduceAdd, Nat.reduceSub, Array.replicate_succ, Array.replicate_zero, List.push_toArray, List.append_toArray, List.nil_append, List.cons_append]
  gi_wp2_with (gi_at_call 107; refine (named_in F (n - 1) h15 hro _ _ _ _).mono ?_; rintro e w' ⟨rfl, rfl⟩)
  have c0 := cell_new_l w (.int .i64 hv) 3
  have c1 := cell_new_l (w.alloc (.cells #[.int .i64 hv] 3)) (.int .i64 0) 3
  have c2 := cell_new_l ((w.alloc (.cells #[.int .i64 hv] 3)).alloc (.cells #[.int .i64 0] 3)) (.slice A xs.length c) 27
  simp only [World.size_alloc] at c1 c2
  have hB0 : Below w.heap.size w (((w.alloc (.cells #[.int .i64 hv] 3)).alloc (.cells #[.int .i64 0] 3)).alloc (.cells #[.slice A xs.length c] 27)) := (((Below.refl _ w).alloc (Nat.le_refl _) _).alloc (by simp) _).alloc (by simp; omega) _
  refine wpIn_rangeFunc_ownG hro h1 (gf := 133) (lb := #[.pointer (some ⟨w.heap.size + 1 + 1, 0, none⟩)]) rfl h17 (enters_of Try.func133 (by kernel_rfl) rfl)
    (named_stops F (n - 1) h17 hro (by omega) (w.heap.size + 1 + 1) w.heap.size A c xs hcap hbig _ (by simp) (by simp; omega) c2.1 (fun W' hb => Kd.C_below hC (hB0.trans hb))) belowK_t (belowK_b (by simp; omega)) (Below.refl _ _) (fun _ => rfl)
    (fun pre W => (W.cell? ⟨w.heap.size, 0, none⟩ = some (.int .i64 hv) ∧ W.cell? ⟨w.heap.size + 1, 0, none⟩ = some (.int .i64 (cn pre hv)) ∧ W.frozen? ⟨w.heap.size + 1, 0, none⟩ = false) ∧ Below w.heap.size w W)
    (fun _ _ _ => False)
    (OwnFrom.and (Own.from (fun s A B row hs hg hr => ⟨cell_kept hs.1 hg hr, cell_kept hs.2.1 hg hr, (frozen_kept hs.2.1 hg hr).trans hs.2.2⟩) _) (ownFrom_below (Nat.le_refl _) (by simp; omega)))
    (fun _ _ _ _ _ hs _ _ => hs)
    ⟨⟨cell_alloc_l _ (cell_alloc_l _ c0.1), cell_alloc_l _ c1.1, frozen_alloc_l _ c1.1 c1.2⟩, hB0⟩
    (fun x => { tmps := #[.slice A xs.length c, .int .i64 hv, undef, .pointer (some ⟨w.heap.size, 0, none⟩), .pointer (some ⟨w.heap.size + 1, 0, none⟩), .int .i64 x, .slice A xs.length c, .func (.func 133) #[] #[.pointer (some ⟨w.heap.size + 1 + 1, 0, none⟩)], .int .i64 x, undef, undef, undef, undef, undef, undef], defers := [] }) ?assign ?body ?done ?stop
  case assign =>
    intro l x W K hK
    gi_wp2
    exact hK
  case body =>
    rintro l pre x W ⟨⟨hch, hcn, hfn⟩, hB⟩ hlt
    have hr := cn_range pre hv
    have hs := cn_snoc pre x hv
    by_cases hx : x = hv
    · subst hx
      rw [if_pos rfl] at hs
      gi_wp2
      have ew : Go.RowKit.wrap64 (cn pre x + 1) = cn pre x + 1 := Go.IntWalk.wrap64_in _ (by omega)
      exact ⟨(KeepsOthers.setCell _ _ _).from _, (Below.refl w.heap.size W).setCell (p := ⟨w.heap.size + 1, 0, none⟩) (by simp) _, ⟨(World.cell?_setCell_other _ _ _ _ (by simp)).trans hch, by rw [hs]; exact World.cell?_setCell_same' _ _ _ (by rw [hcn]; rfl), by rw [World.frozen?_setCell]; exact hfn⟩, hB.setCell (p := ⟨w.heap.size + 1, 0, none⟩) (by simp) _⟩
    · rw [if_neg hx] at hs
      gi_wp2
      exact ⟨(KeepsOthers.refl _).from _, Below.refl _ _, ⟨hch, by rw [hs]; exact hcn, hfn⟩, hB⟩
  case done =>
    rintro D ys W hD rfl ⟨⟨hch, hcn, hfn⟩, hB⟩ hK
    gi_wp2
    have hK' := (KeepsOthers.setCell W ⟨w.heap.size + 1, 0, none⟩ (.int .i64 (cn (nz xs) hv))).same D _ hK rfl
    refine ⟨by simp, .inl ⟨_, _, rfl, run_takeDeferred hK', ?_⟩⟩
    have hc5 := cell_kept (World.cell?_setCell_same' W ⟨w.heap.size + 1, 0, none⟩ (.int .i64 (cn (nz xs) hv)) (by rw [hcn]; rfl)) (grownBy_putObj' _ D (.deferred none)) (fun r e => by cases e; exact ⟨_, hK', rfl⟩)
    refine ⟨.int .i64 (cn (nz xs) hv), ?_, rfl, (hB.setCell (p := ⟨w.heap.size + 1, 0, none⟩) (by simp) _).trans (belowK_b (w := w) (Nat.le_refl _) _ D _ _ (by simp at hD; omega) hK' rfl rfl)⟩
    simp [results, Try.f78, go_sem, hc5]
  case stop =>
    rintro D c pre W _ _ h _
    exact h.elim
def vec_Names.f (l0 : List Int) : Option (List Int) := if l0.length ≤ 1000000 then some (nz l0) else none
set_option maxHeartbeats 2000000 in
theorem vec_Names.calls (A0 : Option Addr) (c0 : Nat) (l0 : List Int) (r : List Int) (w : World) (hr0 : Kd.C (Kd.int .i64) w A0 l0.length l0) (hc0 : l0.length ≤ c0) (h : vec_Names.f l0 = some r) :
    Calls Try.prog 76 #[.slice A0 l0.length c0] w fun e w' => ∃ v0_ : Value, e = .returned v0_ ∧ Kd.R (Kd.int .i64) 3 w' w.heap.size (fun _ => True) v0_ r ∧ Below w.heap.size w w' := by
  unfold vec_Names.f at h
  by_cases hl : l0.length ≤ 1000000
  · rw [if_pos hl] at h
    obtain rfl := Option.some.inj h
    have HR := Aside0.mk hr0
    clear hr0
    have h1 : (1 : Nat) ≤ 5 := by decide
    refine (callsIn_wide (n := 5)).1 ?_
    refine callsIn_of_wp Try.func76 rfl trivial ?_ rfl
    simp only [Try.ntmps76, List.size_toArray, List.length_cons, List.length_nil, Nat.reduceAdd, Nat.reduceSub, Array.replicate_succ, Array.replicate_zero, List.push_toArray, List.append_toArray, List.nil_append, List.cons_append]
    have hB0 : Below w.heap.size w (w.alloc (.cells #[.slice A0 l0.length c0] 27)) := (Below.refl _ w).alloc (Nat.le_refl _) _
    gi_wp2_with (first | (refine ⟨trivial, ?_⟩; gi_at_call 107; refine (named_in Fence.wide (5 - 1) trivial rfl _ _ _ _).mono ?_; rintro e w' ⟨rfl, rfl⟩) | (refine ⟨trivial, ?_⟩; gi_at_call 106; refine (collect_in Fence.wide (5 - 1) trivial trivial trivial rfl (by decide) w.heap.size A0 c0 l0 hc0 hl _ (by simp) (cell_new_l w _ _).1 (fun W' hb => Kd.C_below HR.out ((hB0.trans (hb.mono (by simp)))))).mono ?_; rintro e w' ⟨v, rfl, ho, hb⟩))
    go_ret
    refine ⟨v, rfl, ?_, hB0.trans (hb.mono (by simp))⟩
    obtain ⟨_, cs, e1, e2, e3⟩ := R_of_own ho
    exact ⟨fun k hk => trivial, cs, ownsRow_le e1 (by simp), e2, e3⟩
  · rw [if_neg hl] at h
    exact absurd h (by simp)
def vec_Count.f (l0 : List Int) (a1 : Int) : Option Int := if l0.length ≤ 1000000 then some (cn (nz l0) a1) else none
theorem vec_Count.calls (A0 : Option Addr) (c0 : Nat) (l0 : List Int) (a1 : Int) (r : Int) (w : World) (hr0 : Kd.C (Kd.int .i64) w A0 l0.length l0) (hc0 : l0.length ≤ c0) (h : vec_Count.f l0 a1 = some r) :
    Calls Try.prog 78 #[.slice A0 l0.length c0, .int .i64 a1] w fun e w' => e = .returned (.int .i64 r) ∧ Below w.heap.size w w' := by
  unfold vec_Count.f at h
  by_cases hl : l0.length ≤ 1000000
  · rw [if_pos hl] at h
    obtain rfl := Option.some.inj h
    exact (callsIn_wide (n := 5)).1 (count_in Fence.wide 5 trivial trivial trivial rfl (by decide) A0 c0 l0 a1 hc0 hl w hr0)
  · rw [if_neg hl] at h
    exact absurd h (by simp)
/-! Who names whom, one by one. -/
def eOf (ds : List S82) (h : Int) : List (Int × Int) := if (getd ds h).2 = 0 then (nz (getd ds h).1.f5).map (fun x => (h, x)) else []
def edgN (ds : List S82) (k : Nat) : List (Int × Int) := ((lvd ds).take k).flatMap (eOf ds)
def edg (ds : List S82) : List (Int × Int) := (lvd ds).flatMap (eOf ds)
theorem edgN_succ (ds : List S82) (k : Nat) (h : Int) (hk : (lvd ds)[k]? = some h) : edgN ds (k + 1) = edgN ds k ++ eOf ds h := by
  unfold edgN
  obtain ⟨h1, rfl⟩ := List.getElem?_eq_some_iff.mp hk
  rw [List.take_succ_eq_append_getElem h1, List.flatMap_append]
  simp
theorem edgN_all (ds : List S82) : edgN ds (lvd ds).length = edg ds := by unfold edgN edg; rw [List.take_length]
theorem eOf_len (ds : List S82) (h : Int) (hF : ∀ h, (getd ds h).1.f5.length ≤ 1000000) : (eOf ds h).length ≤ 1000000 := by
  unfold eOf
  by_cases e : (getd ds h).2 = 0
  · rw [if_pos e, List.length_map]; exact Nat.le_trans (nz_len _) (hF h)
  · rw [if_neg e]; exact Nat.zero_le _
theorem edgN_len (ds : List S82) (hF : ∀ h, (getd ds h).1.f5.length ≤ 1000000) : ∀ k, k ≤ (lvd ds).length → (edgN ds k).length ≤ k * 1000000
  | 0, _ => by simp [edgN]
  | k + 1, hk => by
    have h1 := edgN_len ds hF k (by omega)
    rw [edgN_succ ds k _ (List.getElem?_eq_getElem (by omega)), List.length_append]
    have := eOf_len ds (lvd ds)[k] hF
    omega
theorem lvd_le (ds : List S82) : (lvd ds).length ≤ ds.length := by rw [lvd_len, lvN_len]; exact plc_len _ _
/-- The block of the row that a box holds. -/
def rowOf (b : Nat) (W : World) : Option Nat := (W.cell? ⟨b, 0, none⟩).bind Value.ownBlock
/-- What a round keeps: all that lay below n₀; all cells but those of its own boxes and of the row that it gathers. -/
def KpE (n₀ b4 : Nat) (own : Nat → Prop) (W W' : World) : Prop :=
  Below n₀ W W' ∧ (∀ k cs t, W.heap[k]? = some (.cells cs t (0, 0)) → ¬ own k → some k ≠ rowOf b4 W → W'.heap[k]? = some (.cells cs t (0, 0))) ∧ (rowOf b4 W' = rowOf b4 W ∨ ∃ k, rowOf b4 W' = some k ∧ W.heap.size ≤ k)
theorem KpE.trans {n₀ b4 : Nat} {own : Nat → Prop} {X Y Z : World} (h : KpE n₀ b4 own X Y) (k : KpE n₀ b4 own Y Z) : KpE n₀ b4 own X Z := by
  refine ⟨h.1.trans k.1, fun i cs t hi ho hr => k.2.1 i cs t (h.2.1 i cs t hi ho hr) ho ?_, ?_⟩
  · rcases h.2.2 with e | ⟨j, e, hj⟩
    · rw [e]; exact hr
    · rw [e]; intro e2; cases e2; have := blk_lt hi; omega
  · rcases k.2.2 with e | ⟨j, e, hj⟩
    · rw [e]; exact h.2.2
    · exact .inr ⟨j, e, Nat.le_trans h.1.size hj⟩
theorem kpE_b {w : World} {n₀ b4 : Nat} {own : Nat → Prop} (hn : n₀ ≤ w.heap.size) (hb : b4 < w.heap.size) (W : World) (l : Nat) (o o' : Obj) (hl : w.heap.size ≤ l) (h1 : W.heap[l]? = some o) (h2 : o.isCells = false) (h3 : o.isWalk = false) : KpE n₀ b4 own W (W.putObj l o') := by
  have hne : ∀ k, k ≠ l → (W.putObj l o').heap[k]? = W.heap[k]? := fun k hk => by simp only [World.putObj]; rw [Array.getElem?_setIfInBounds_ne (Ne.symm hk)]
  refine ⟨belowK_b hn W l o o' hl h1 h2 h3, fun k cs t hk _ _ => ?_, .inl ?_⟩
  · rw [hne k (fun e => by subst e; rw [h1] at hk; cases hk; cases h2)]; exact hk
  · unfold rowOf; rw [World.cell?_of_block (hne b4 (by omega))]
theorem KpE.below {n₀ b4 : Nat} {own : Nat → Prop} {X Y : World} (hn : n₀ ≤ X.heap.size) (hb4 : b4 < X.heap.size) (h : Below X.heap.size X Y) : KpE n₀ b4 own X Y :=
  ⟨h.mono hn, fun k cs t hk _ _ => blk_below hk h, .inl (by unfold rowOf; rw [World.cell?_of_block (h.block b4 hb4)])⟩
/-- What the iterator knows along its way. -/
structure EI (n₀ b4 Bs g cap s0 s1 : Nat) (box : Array Value) (L : List Int) (W wr : World) : Prop where
  bl : Below n₀ W wr
  bs : wr.heap[Bs]? = some (.cells box 26 (0, 0))
  sz : s1 ≤ wr.heap.size
  lv : L ≠ [] → Row3 wr g cap L ∧ s0 ≤ g ∧ g < s1
  rw_ : ∀ r, rowOf b4 wr = some r → s1 ≤ r
theorem EI.kp {n₀ b4 Bs g cap s0 s1 : Nat} {box : Array Value} {L : List Int} {W X Y : World} {own : Nat → Prop} (h : EI n₀ b4 Bs g cap s0 s1 box L W X) (hk : KpE n₀ b4 own X Y) (hBs : Bs < s0) (hBo : ¬ own Bs) (ho : ∀ k, own k → k < s0) (h01 : s0 ≤ s1) : EI n₀ b4 Bs g cap s0 s1 box L W Y := by
  refine ⟨h.bl.trans hk.1, hk.2.1 _ _ _ h.bs hBo (fun e => by have := h.rw_ _ e.symm; omega), Nat.le_trans h.sz hk.1.size, fun hl => ?_, fun r hr => ?_⟩
  · obtain ⟨⟨cur, h1, h2⟩, h3, h4⟩ := h.lv hl
    exact ⟨⟨cur, hk.2.1 _ _ _ h1 (fun e => by have := ho _ e; omega) (fun e => by have := h.rw_ _ e.symm; omega), h2⟩, h3, h4⟩
  · rcases hk.2.2 with e | ⟨j, e, hj⟩
    · rw [e] at hr; exact h.rw_ r hr
    · rw [e] at hr; cases hr; exact Nat.le_trans h.sz hj
theorem EI.below {n₀ b4 Bs g cap s0 s1 : Nat} {box : Array Value} {L : List Int} {W X Y : World} (h : EI n₀ b4 Bs g cap s0 s1 box L W X) (hk : Below X.heap.size X Y) (hn : n₀ ≤ s1) (hb4 : b4 < s1) (hBs : Bs < s0) (h01 : s0 ≤ s1) : EI n₀ b4 Bs g cap s0 s1 box L W Y :=
  h.kp (own := fun _ => False) (KpE.below (Nat.le_trans hn h.sz) (Nat.lt_of_lt_of_le hb4 h.sz) hk) hBs (fun e => e) (fun _ e => e.elim) h01
theorem J_below {β : Type} {B : Nat} {J : β → World → Prop} (hJ : AbidesFrom B J) {s : β} {X Y : World} (h : J s X) (hb : Below X.heap.size X Y) : J s Y :=
  hJ s X Y none h ⟨hb.os, hb.tape, hb.output, hb.size, fun k hk _ => hb.block k hk⟩ (fun r e => by cases e)
/-! A function with a label. -/
theorem stepR_scope {P : Program} {b : Frame} {a : Act} {k : List Item} {cs : List Frame} {w : World} {c : Code} : step P (lone (b.atR a (.code (.scope c) :: k)) cs w) = .next (lone (b.atR a (.code c :: .inScope c :: k)) cs w) :=
  step_lone_go (by simp [stepG, stepG.exec, Frame.atR])
theorem stepR_inScope {P : Program} {b : Frame} {a : Act} {k : List Item} {cs : List Frame} {w : World} {c : Code} : step P (lone (b.atR a (.inScope c :: k)) cs w) = .next (lone (b.atR a k) cs w) :=
  step_lone_go (by simp [stepG, stepG.exec, Frame.atR])
theorem wpIn_scope {F : Fence} {n : Nat} {P : Program} {Q : Exit → Act → World → Prop} {a : Act} {w : World} {c : Code} (h : c.wpIn F n P (Exit.noGoto Q) a w) : (Code.scope c).wpIn F n P Q a w := by
  intro b k cs hro hb hr
  have h0 : (lone (b.atR a (.code (.scope c) :: k)) cs w).fenced P F := fenced_calm hb hr rfl
  obtain ⟨e, a₁, w₁, hq, harr⟩ := h b (.inScope c :: k) cs hro hb hr
  cases e with
  | normal => exact ⟨.normal, a₁, w₁, hq, .head h0 stepR_scope (StepsIn.trans harr (.one (fenced_calm hb hr rfl) stepR_inScope))⟩
  | exit id =>
    have hx : exitTo id (.inScope c :: k) = exitTo id k := by simp [exitTo]
    exact ⟨.exit id, a₁, w₁, hq, fun k' hk => .head h0 stepR_scope (harr.1 k' (by rw [hx]; exact hk)), fun hr' hk => let ⟨k₁, h1, h2⟩ := harr.2 hr' (by rw [hx]; exact hk); ⟨k₁, h1, .head h0 stepR_scope h2⟩⟩
  | goto l => exact hq.elim
  | ret => exact ⟨_, a₁, w₁, hq, .of_steps (.one h0 stepR_scope) harr⟩
  | panic ch => exact ⟨_, a₁, w₁, hq, .of_steps (.one h0 stepR_scope) harr⟩
  | outgrown => exact ⟨_, a₁, w₁, hq, .of_steps (.one h0 stepR_scope) harr⟩
theorem FO.fieldsN {W W1 : World} {n₀ : Nat} {v : RO} {d : S29} (h : FO W (fun k => k < n₀) v d) (hb : ∀ k, k < n₀ → k < W.heap.size → W1.heap[k]? = W.heap[k]?) : v.fn = d.f5.length ∧ d.f5.length ≤ v.fc ∧ Kd.C (Kd.int .i64) W1 v.fa d.f5.length d.f5 := by
  obtain ⟨_, _, _, _, _, hn, hc, hC⟩ := h W1 hb
  exact ⟨hn, hc, hC⟩
set_option maxRecDepth 100000 in
set_option maxHeartbeats 8000000 in
theorem edges1_in (n : Nat) (hn : 1 ≤ n) (l Bs n₀ b4 : Nat) (own : Nat → Prop) (A : Option Addr) (c : Nat) (ds : List S82) (last ser : Int) (hbig : ds.length ≤ 1000000) (hd : Apart82 ds) (hF : ∀ h, (getd ds h).1.f5.length ≤ 1000000) (J Jx : List (Int × Int) → World → Prop) (W : World)
    (hn0 : n₀ ≤ W.heap.size) (hBs : Bs < W.heap.size) (hBo : ¬ own Bs) (hb4 : b4 < W.heap.size) (hrow : rowOf b4 W = none) (hown : ∀ k, own k → k < W.heap.size) (hJ : AbidesFrom W.heap.size J)
    (hY : ∀ pre (x : Int × Int) W, J pre W → pre.length < 1000000000000 → YieldAt Fence.wide (n - 1) Try.prog l #[.int .i64 x.1, .int .i64 x.2] W fun e W' =>
      (e = .returned (.bool true) ∧ J (pre ++ [x]) W' ∧ KpE n₀ b4 own W W') ∨ (e = .returned (.bool false) ∧ Jx (pre ++ [x]) W'))
    (hbox : W.heap[Bs]? = some (.cells #[.slice A ds.length c, .int .i64 last, .int .i64 ser] 26 (0, 0)))
    (hV : ∀ W', Below n₀ W W' → Kd.V k82 82 W' 0 (fun k => k < n₀) (.slice A ds.length c) ds) (h0 : J [] W) :
    CallsIn Fence.wide n Try.prog 108 #[.func (.yield l) #[] #[], .pointer (some ⟨Bs, 0, none⟩)] W fun e W' => (∃ v, e = .returned v) ∧
      ((∃ ys, ys = edg ds ∧ J ys W') ∨ (∃ pre : List (Int × Int), True ∧ Jx pre W')) := by
  have HV := Aside0.mk hV
  have HL := Aside0.mk (sLive (last := last) (ser := ser) hbig hd (hV W (Below.refl _ _)))
  have HBX := Aside0.mk hbox
  have x0 := (blk_cell hbox 0).trans rfl
  have x1 := (blk_cell hbox 1).trans rfl
  have x2 := (blk_cell hbox 2).trans rfl
  clear hV hd hbox
  refine callsIn_of_wp Try.func108 rfl trivial ?_ rfl
  simp only [Try.ntmps108, List.size_toArray, List.length_cons, List.length_nil, Nat.reduceAdd, Nat.reduceSub, Array.replicate_succ, Array.replicate_zero, List.push_toArray, List.append_toArray, List.nil_append, List.cons_append]
  refine wpIn_scope ?_
  refine wpIn_seq (wpIn_label ?_)
  show Code.wpIn _ _ _ _ _ _ _
  gi_wp2_with (refine ⟨trivial, ?_⟩; gi_at_call 29; refine (callsIn_wide.2 HL.out).mono ?_; rintro e w1 ⟨v0, rfl, hv, hb⟩; obtain ⟨A1, g, cap, rfl, hA1, hLR⟩ : ∃ A1 g cap, v0 = .slice A1 (lvd ds).length cap ∧ (lvd ds ≠ [] → A1 = some ⟨g, 0, none⟩) ∧ (lvd ds ≠ [] → Row3 w1 g cap (lvd ds) ∧ W.heap.size ≤ g ∧ g < w1.heap.size) := (by
    by_cases e : lvd ds = []
    · obtain ⟨A, c, he⟩ := Kd.R_slice hv
      exact ⟨A, 0, c, he, fun h => absurd e h, fun h => absurd e h⟩
    · obtain ⟨g, cap, he, hg, hr⟩ := R_row3 hv e
      exact ⟨_, g, cap, he, fun _ => rfl, fun _ => ⟨hr, hg, by obtain ⟨_, hh, _⟩ := hr; exact blk_lt hh⟩⟩))
  have HB1 := Aside0.mk hb
  have h01 : W.heap.size ≤ w1.heap.size := hb.size
  have hE1 : EI n₀ b4 Bs g cap W.heap.size w1.heap.size #[.slice A ds.length c, .int .i64 last, .int .i64 ser] (lvd ds) W w1 :=
    ⟨hb.mono hn0, blk_below HBX.out hb, Nat.le_refl _, hLR, fun r hr => by
      have : rowOf b4 w1 = rowOf b4 W := by unfold rowOf; rw [World.cell?_of_block (hb.block b4 hb4)]
      rw [this, hrow] at hr; cases hr⟩
  have hJ1 := J_below hJ h0 hb
  have hn1 : n₀ ≤ w1.heap.size := Nat.le_trans hn0 h01
  have hb1 : b4 < w1.heap.size := Nat.lt_of_lt_of_le hb4 h01
  clear hLR hv hb x0 x1 x2
  gi_loopw [12] (fun i wr => ∃ k : Nat, k ≤ (lvd ds).length ∧ i = .int .i64 k ∧ J (edgN ds k) wr ∧ EI n₀ b4 Bs g cap W.heap.size w1.heap.size #[.slice A ds.length c, .int .i64 last, .int .i64 ser] (lvd ds) W wr)
    (fun i _ => (lvd ds).length - (intOf i).toNat)
  case atStart => exact ⟨0, Nat.zero_le _, rfl, by simpa [edgN] using hJ1, hE1⟩
  case round =>
    clear hJ1 hE1
    obtain ⟨k, hk, rfl, hJs, hE⟩ := hrel
    by_cases hlt : k < (lvd ds).length
    · have hne : lvd ds ≠ [] := fun e => by rw [e] at hlt; exact absurd hlt (by simp)
      obtain rfl := hA1 hne
      have hkx := List.getElem?_eq_getElem hlt
      obtain ⟨h, hh⟩ : ∃ h, h = (lvd ds)[k] := ⟨_, rfl⟩
      rw [← hh] at hkx
      have HKX := Aside0.mk hkx
      have HE := Aside0.mk hE
      have hcx := ((hE.lv hne).1.cell hkx).1
      have x0 := (blk_cell hE.bs 0).trans rfl
      have x1 := (blk_cell hE.bs 1).trans rfl
      have x2 := (blk_cell hE.bs 2).trans rfl
      have HG := Aside0.mk (sGet (last := last) (ser := ser) (h := h) hbig (HV.out wr hE.bl))
      have HEO := Aside0.mk (show eOf ds h = eOf ds h from rfl)
      have hEO := edgN_succ ds k h hkx
      unfold eOf at hEO
      have hFh := hF h
      obtain ⟨x, hx⟩ : ∃ x, x = getd ds h := ⟨_, rfl⟩
      rw [← hx] at HG hEO hFh
      obtain ⟨d, r2⟩ := x
      dsimp only at HG hEO hFh
      clear hh hE hkx hx HEO
      by_cases e : r2 = 0
      · subst e
        rw [if_pos rfl] at hEO
        gi_wp2_with (refine ⟨trivial, ?_⟩; gi_at_call 23; refine (callsIn_wide.2 HG.out).mono ?_; rintro e w3 ⟨v, rfl, hrel, hb⟩; obtain ⟨v1, v2, v3, v4, v5, fa, fn, fc⟩ := v; have HFO := Aside0.mk hrel; have hfn := (hrel.fieldsN (W1 := wr) (fun _ _ _ => rfl)).1; dsimp only at hfn ⊢; subst hfn; clear hrel)
        have hbn : Below wr.heap.size wr (w3.alloc (.cells #[.int .i64 v1, .int .i64 v2, .int .i64 v3, .int .i64 v4, .bool v5, .slice fa d.f5.length fc] 29)) := hb.alloc hb.size _
        have hJn := J_below hJ hJs hbn
        have hEn := HE.out.below hbn hn1 hb1 hBs h01
        have HEN := Aside0.mk hEO
        have hkl : (edgN ds k).length ≤ k * 1000000 := edgN_len ds hF k hk
        have hdl := lvd_le ds
        clear hb hbn hJs hEO
        gi_loopw [27] (fun i wq => ∃ j : Nat, j ≤ d.f5.length ∧ i = .int .i64 j ∧ J (edgN ds k ++ (nz (d.f5.take j)).map (fun x => (h, x))) wq ∧ EI n₀ b4 Bs g cap W.heap.size w1.heap.size #[.slice A ds.length c, .int .i64 last, .int .i64 ser] (lvd ds) W wq)
          (fun i _ => d.f5.length - (intOf i).toNat)
        case atStart => exact ⟨0, Nat.zero_le _, rfl, by simpa [nz] using hJn, hEn⟩
        case round =>
          clear hJn hEn
          obtain ⟨j, hj, rfl, hJq, hEq⟩ := hrel
          by_cases hlj : j < d.f5.length
          · have hC := (HFO.out.fieldsN (W1 := wr) (fun k hk hkl => (hEq.bl.block k hk).trans (HE.out.bl.block k hk).symm)).2.2
            obtain ⟨ad, e, hcj⟩ := Kd.at_int hC (j : Int) (by omega) (by omega)
            dsimp only at e
            subst e
            rw [Int.toNat_natCast] at hcj
            clear hC
            cases hx : (rd d.f5 (j : Int) != 0) with
            | true =>
              have HX := Aside0.mk hx
              obtain ⟨fn, tmps, assign, body, hy, hR⟩ := hY _ (h, rd d.f5 (j : Int)) wr hJq (by have := nz_len (d.f5.take j); rw [List.length_take] at this; rw [List.length_append, List.length_map]; omega)
              gi_wp2
              refine hR.mono ?_
              rintro e W3 (⟨rfl, hJ3, hk3⟩ | ⟨rfl, hJx3⟩)
              · gi_wp2
                go_roundw
                case rel => exact ⟨j + 1, by omega, by simp, by rw [nz_hit d.f5 j hlj HX.out, List.map_append, ← List.append_assoc]; exact hJ3, hEq.kp hk3 hBs hBo hown h01⟩
                case measure => simp [intOf]; omega
              · gi_wp2
                rw [Exit.noGoto_normal]
                go_end0
                exact ⟨⟨_, rfl⟩, .inr ⟨_, trivial, hJx3⟩⟩
            | false =>
              have HX := Aside0.mk hx
              gi_wp2
              refine ⟨fun _ h => (by cases h), ?_⟩
              gi_wp2
              go_roundw
              case rel => exact ⟨j + 1, by omega, by simp, by rw [nz_miss d.f5 j hlj HX.out]; exact hJq, hEq⟩
              case measure => simp [intOf]; omega
          · obtain rfl : j = d.f5.length := by omega
            gi_wp2
            go_roundw
            case rel => exact ⟨k + 1, by omega, by first | rfl | (simp; done) | exact congrArg _ (w1_of (by have := lvd_le ds; omega)), by rw [HEN.out]; rw [List.take_length] at hJq; exact hJq, hEq⟩
            case measure => first | (simp [intOf]; omega) | (rw [w1_of (by have := lvd_le ds; omega)]; simp [intOf]; omega)
      · rw [if_neg e, List.append_nil] at hEO
        have e1 : decide (r2 = 0) = false := decide_eq_false e
        have e2 : (r2 == 0) = false := by simpa using e
        have e3 : (r2 != 0) = true := by simpa using e
        gi_wp2_with (refine ⟨trivial, ?_⟩; gi_at_call 23; refine (callsIn_wide.2 HG.out).mono ?_; rintro e w3 ⟨v, rfl, hrel, hb⟩)
        have hbn : Below wr.heap.size wr (w3.alloc (.cells #[.int .i64 v.ser, .int .i64 v.str, .int .i64 v.wk, .int .i64 v.pr, .bool v.sd, .slice v.fa v.fn v.fc] 29)) := hb.alloc hb.size _
        go_roundw
        case rel => exact ⟨k + 1, by omega, by first | rfl | (simp; done) | exact congrArg _ (w1_of (by have := lvd_le ds; omega)), by rw [hEO]; exact J_below hJ hJs hbn, HE.out.below hbn hn1 hb1 hBs h01⟩
        case measure => first | (simp [intOf]; omega) | (rw [w1_of (by have := lvd_le ds; omega)]; simp [intOf]; omega)
    · obtain rfl : k = (lvd ds).length := by omega
      gi_wp2
      rw [Exit.noGoto_normal]
      go_end0
      exact ⟨⟨_, rfl⟩, .inl ⟨_, rfl, by rw [← edgN_all]; exact hJs⟩⟩
theorem edges_stops (n : Nat) (hn : 1 ≤ n) (Bs n₀ b4 : Nat) (own : Nat → Prop) (A : Option Addr) (c : Nat) (ds : List S82) (last ser : Int) (hbig : ds.length ≤ 1000000) (hd : Apart82 ds) (hF : ∀ h, (getd ds h).1.f5.length ≤ 1000000) (w : World)
    (hn0 : n₀ ≤ w.heap.size) (hBs : Bs < w.heap.size) (hBo : ¬ own Bs) (hb4 : b4 < w.heap.size) (hrow : rowOf b4 w = none) (hown : ∀ k, own k → k < w.heap.size)
    (hbox : w.heap[Bs]? = some (.cells #[.slice A ds.length c, .int .i64 last, .int .i64 ser] 26 (0, 0)))
    (hV : ∀ W', Below n₀ w W' → Kd.V k82 82 W' 0 (fun k => k < n₀) (.slice A ds.length c) ds) :
    SeqStopsK Fence.wide n Try.prog 108 #[.pointer (some ⟨Bs, 0, none⟩)] (fun x : Int × Int => #[Value.int .i64 x.1, Value.int .i64 x.2]) (KpE n₀ b4 own) (fun ys => ys = edg ds) (fun _ => True) 1000000000000 w := fun l J Jx W hW hJ _ hY h0 =>
  edges1_in n hn l Bs n₀ b4 own A c ds last ser hbig hd hF J Jx W (Nat.le_trans hn0 hW.size) (Nat.lt_of_lt_of_le hBs hW.size) hBo (Nat.lt_of_lt_of_le hb4 hW.size) (by unfold rowOf; rw [World.cell?_of_block (hW.block b4 hb4)]; exact hrow) (fun k hk => Nat.lt_of_lt_of_le (hown k hk) hW.size) hJ hY (blk_below hbox hW) (fun W' hb => hV W' ((hW.mono hn0).trans hb)) h0
set_option maxHeartbeats 1000000 in
theorem edges_in (F : Fence) (n : Nat) (h77 : F.fn 77) (hro : F.round = none) (A : Option Addr) (len c : Nat) (last ser : Int) (w : World) :
    CallsIn F n Try.prog 77 #[.agg #[.slice A len c, .int .i64 last, .int .i64 ser]] w fun e w' => e = .returned (.func (.func 108) #[] #[.pointer (some ⟨w.heap.size, 0, none⟩)]) ∧ w' = w.alloc (.cells #[.slice A len c, .int .i64 last, .int .i64 ser] 26) := by
  refine callsIn_of_wp Try.func77 rfl h77 ?_ hro
  simp only [Try.ntmps77, List.size_toArray, List.length_cons, List.length_nil, Nat.reduceAdd, Nat.reduceSub, Array.replicate_succ, Array.replicate_zero, List.push_toArray, List.append_toArray, List.nil_append, List.cons_append]
  gi_wp2
  go_ret
  exact ⟨rfl, rfl⟩
end Go.Proofs.Ytkmjboeabmmecaa.MAll
