/- The slab of numbers: what its functions come to. Conditions: those of each lemma. -/
import Derived.Test.YtacgijcdcodfkaaProg
import Derived.Below
import Derived.Deep.Draws
import Derived.Deep.AppendLies
import Derived.Maps.AppendAt
import Derived.OwnWalk
import Derived.Laws.BytesArg
import Derived.Laws.MakeOwn
import Derived.Laws.OwnMore
import Derived.Deep.OwnRows
import Derived.Tactics
import Derived.Lib.ConvBytes
import Derived.Laws.Slices
import Derived.WalkKit
import Derived.KernelRfl
import Derived.RowKit3
import Derived.Deep.LoopGhost
import Derived.Deep.QuietTactic
import Derived.BigQuiet
import Derived.WideLaws
import Derived.Deep.DeepCutAuto
import Derived.Deep.CutBlock
import Derived.Deep.RegionHeld3
import Derived.Laws.Rows
import Derived.Lib.AppendStr
import Derived.ArgAppend
import Derived.Laws.IdiomCopy
import Derived.OrdersHeld
import Derived.Laws.BitsLemmas
import Derived.RowKit
import Derived.OpenShut
import Derived.Test.YtacgijcdcodfkaaWWords
import Derived.Test.YtacgijcdcodfkaaWLast
import Derived.Test.YtacgijcdcodfkaaWTab
import Derived.Test.YtacgijcdcodfkaaWQPut
import Derived.Test.YtacgijcdcodfkaaWApart
import Derived.Test.YtacgijcdcodfkaaWArr
import Derived.Test.YtacgijcdcodfkaaWZeros
import Derived.Test.YtacgijcdcodfkaaWFoot
import Derived.Test.YtacgijcdcodfkaaWKept
import Derived.Test.YtacgijcdcodfkaaWShare
import Derived.Test.YtacgijcdcodfkaaWN
import Derived.Test.YtacgijcdcodfkaaWEqStruct
import Derived.Test.YtacgijcdcodfkaaWRepsOne
import Derived.Test.YtacgijcdcodfkaaWGuard
import Derived.Test.YtacgijcdcodfkaaWNEv
import Derived.Test.YtacgijcdcodfkaaWMore
import Derived.Test.YtacgijcdcodfkaaArr4
import Derived.Test.YtacgijcdcodfkaaSteps
import Derived.Test.YtacgijcdcodfkaaMAllx0
import Derived.RangeFuncBox
import Derived.RangeFuncNested
import Derived.RangeFuncBound
import Derived.RangeFuncCalls
import Derived.RangeFuncLeaves
import Derived.Shelf.Abstract
import Derived.Shelf.RegionOpen
import Derived.OwnWalkIn
import Derived.TacticsInMore
import Derived.LoopNIn
import Derived.LoopIn
import Derived.RegionTactic
import Derived.WalkSpells
import Derived.Lib.SliceRun
import Derived.Test.YtacgijcdcodfkaaCopy
namespace Go.Proofs.Ytacgijcdcodfkaa.MAll
open Go.RowKit Go.Proofs.YtacgijcdcodfkaaW.PrintWords Go.Proofs.YtacgijcdcodfkaaW.PrintLast Go.Proofs.YtacgijcdcodfkaaW.PrintMore
attribute [local go_sem] max2_int min2_int max_two min_two max_three min_three max_four min_four   -- for this text's walks alone
set_option linter.unusedVariables false
set_option linter.unusedSimpArgs false
attribute [local go_sem] Oper.semAt_some
open Go.Shelf Go.Proofs.Ytacgijcdcodfkaa
def isS {α : Type} (st : α → Int) (l : List α) (s : Int) (i : Nat) : Bool := match l[i]? with
  | some c => st c == s
  | none => false
/-- Where the cells of a state are. -/
def inS {α : Type} (st : α → Int) (l : List α) (s : Int) : List Int := ((List.range l.length).filter (isS st l s)).map fun i : Nat => (i : Int)
def inTo {α : Type} (st : α → Int) (l : List α) (s : Int) (k : Nat) : List Int := ((List.range k).filter (isS st l s)).map fun i : Nat => (i : Int)
theorem isS_at {α : Type} (st : α → Int) (l : List α) (s : Int) (i : Nat) (h : i < l.length) : isS st l s i = (st l[i] == s) := by unfold isS; rw [List.getElem?_eq_getElem h]
theorem inTo_all {α : Type} (st : α → Int) (l : List α) (s : Int) : inTo st l s l.length = inS st l s := rfl
theorem inTo_zero {α : Type} (st : α → Int) (l : List α) (s : Int) : inTo st l s 0 = [] := rfl
theorem inTo_step {α : Type} (st : α → Int) (l : List α) (s : Int) (k : Nat) (h : k < l.length) : inTo st l s (k + 1) = if (st l[k] == s) = true then inTo st l s k ++ [(k : Int)] else inTo st l s k := by
  unfold inTo
  rw [List.range_succ, List.filter_append, List.map_append, List.filter_cons, isS_at st l s k h]
  by_cases c : (st l[k] == s) = true
  · simp only [c, if_true]; rfl
  · simp only [c]; simp
theorem inTo_len {α : Type} (st : α → Int) (l : List α) (s : Int) (k : Nat) : (inTo st l s k).length ≤ k := by
  unfold inTo
  rw [List.length_map]
  exact Nat.le_trans (List.length_filter_le _ _) (by rw [List.length_range]; exact Nat.le_refl _)
theorem inTo_prefix {α : Type} (st : α → Int) (l : List α) (s : Int) (k : Nat) (h : k ≤ l.length) : inTo st l s k <+: inS st l s := by
  unfold inTo inS
  refine List.IsPrefix.map _ (List.IsPrefix.filter _ ?_)
  have : List.range k = (List.range l.length).take k := by rw [List.take_range, Nat.min_eq_left h]
  rw [this]
  exact List.take_prefix _ _
/-- What a round keeps: what lay below n₀, and the state's box. -/
def KpB (n₀ b : Nat) (W W' : World) : Prop := Below n₀ W W' ∧ W'.heap[b]? = W.heap[b]?
theorem KpB.refl (n₀ b : Nat) (W : World) : KpB n₀ b W W := ⟨Below.refl _ _, rfl⟩
theorem KpB.trans {n₀ b : Nat} {A B C : World} (h : KpB n₀ b A B) (k : KpB n₀ b B C) : KpB n₀ b A C := ⟨h.1.trans k.1, k.2.trans h.2⟩
theorem KpB.alloc {n₀ b : Nat} {W : World} (h : n₀ ≤ W.heap.size) (hb : b < W.heap.size) (o : Obj) : KpB n₀ b W (W.alloc o) := ⟨(Below.refl _ _).alloc h _, Below.heap_alloc W o b hb⟩
theorem KpB.cell {n₀ b : Nat} {W W' : World} (h : KpB n₀ b W W') {v : Value} (hc : W.cell? ⟨b, 0, none⟩ = some v) : W'.cell? ⟨b, 0, none⟩ = some v := (World.cell?_of_block (a := ⟨b, 0, none⟩) h.2).trans hc
theorem kpB_b {w : World} {n₀ b : Nat} (hn : n₀ ≤ w.heap.size) (hb : b < w.heap.size) (W : World) (l : Nat) (o o' : Obj) (hl : w.heap.size ≤ l) (h1 : W.heap[l]? = some o) (h2 : o.isCells = false) (h3 : o.isWalk = false) : KpB n₀ b W (W.putObj l o') :=
  ⟨belowK_b hn W l o o' hl h1 h2 h3, by simp only [World.putObj]; rw [Array.getElem?_setIfInBounds_ne (by omega)]⟩
theorem KpB.set {n₀ b : Nat} {W W' : World} (h : KpB n₀ b W W') {g i : Nat} (hg : n₀ ≤ g) (hb : g ≠ b) (u : Value) : KpB n₀ b W (W'.setCell ⟨g, i, none⟩ u) := ⟨h.1.setCell (p := ⟨g, i, none⟩) hg _, (Below.heap_setCell W' ⟨g, i, none⟩ u b (Ne.symm hb)).trans h.2⟩
theorem blk_drewN_heap (w : World) (n : Nat) : (w.drewN n).heap = w.heap := by
  induction n with
  | zero => rfl
  | succ n ih => exact ih
theorem KpB.drewN {n₀ b : Nat} {W W' : World} (h : KpB n₀ b W W') (m : Nat) : KpB n₀ b W (W'.drewN m) := ⟨pw_below_drewN h.1 m, by rw [blk_drewN_heap]; exact h.2⟩
/-- Places as numbers. -/
def fvs {m : Nat} (l : List (Fin m)) : List Int := l.map fun x => ((x.val : Nat) : Int)
theorem fvs_len {m : Nat} (l : List (Fin m)) : (fvs l).length = l.length := List.length_map _
theorem fvs_snoc {m : Nat} {l : List (Fin m)} {k : Nat} (h : k < m) {L : List Int} (e : L = fvs l ++ [(k : Int)]) : fvs (l ++ [(⟨k, h⟩ : Fin m)]) = L := by rw [e]; simp [fvs]
theorem cell_new_l (W : World) (v : Value) (t : TypeId) : (W.alloc (.cells #[v] t)).cell? ⟨W.heap.size, 0, none⟩ = some v ∧ (W.alloc (.cells #[v] t)).frozen? ⟨W.heap.size, 0, none⟩ = false :=
  ⟨(Boxed.new W t v).cell, (Boxed.new W t v).frozen⟩
theorem cell_alloc_l {W : World} {a : Addr} {v : Value} (o : Obj) (h : W.cell? a = some v) : (W.alloc o).cell? a = some v := cell_kept h (World.grownBy_alloc W o none) (fun r e => by cases e)
theorem frozen_alloc_l {W : World} {a : Addr} {v : Value} (o : Obj) (h : W.cell? a = some v) (hf : W.frozen? a = false) : (W.alloc o).frozen? a = false := (frozen_kept h (World.grownBy_alloc W o none) (fun r e => by cases e)).trans hf
/-- The two boxes that the iterator's closure holds. -/
def qbox49 (w : World) (A : Option Addr) (n c : Nat) (last s : Int) : World := (w.alloc (.cells #[.slice A n c, .int .i64 last] 24)).alloc (.cells #[.int .i64 s] 3)
theorem qbox49_size (w : World) (A : Option Addr) (n c : Nat) (last s : Int) : (qbox49 w A n c last s).heap.size = w.heap.size + 1 + 1 := by simp [qbox49]
theorem qbox49_below (w : World) (A : Option Addr) (n c : Nat) (last s : Int) {n₀ : Nat} (h : n₀ ≤ w.heap.size) : Below n₀ w (qbox49 w A n c last s) := ((Below.refl _ w).alloc h _).alloc (by simp; omega) _
theorem qbox49_cells (w : World) (A : Option Addr) (n c : Nat) (last s : Int) : (qbox49 w A n c last s).cell? ⟨w.heap.size, 0, none⟩ = some (.slice A n c) ∧ (qbox49 w A n c last s).cell? ⟨w.heap.size, 1, none⟩ = some (.int .i64 last) ∧ (qbox49 w A n c last s).cell? ⟨w.heap.size + 1, 0, none⟩ = some (.int .i64 s) := by
  have h1 : (qbox49 w A n c last s).heap[w.heap.size]? = some (.cells #[.slice A n c, .int .i64 last] 24 (0, 0)) := blk_alloc (blk_new _ _) _
  have h2 : (qbox49 w A n c last s).heap[w.heap.size + 1]? = some (.cells #[.int .i64 s] 3 (0, 0)) := by
    have h := blk_new (w.alloc (.cells #[.slice A n c, .int .i64 last] 24)) (.cells #[.int .i64 s] 3)
    rw [World.size_alloc] at h
    exact h
  exact ⟨(blk_cell h1 0).trans rfl, (blk_cell h1 1).trans rfl, (blk_cell h2 0).trans rfl⟩
set_option maxHeartbeats 1000000 in
theorem in49_c (A : Option Addr) (len cap : Nat) (last s : Int) (w : World) :
    Calls Try.prog 35 #[.agg #[.slice A len cap, .int .i64 last], .int .i64 s] w fun e w' => e = .returned (.func (.func 54) #[] #[.pointer (some ⟨w.heap.size, 0, none⟩), .pointer (some ⟨w.heap.size + 1, 0, none⟩)]) ∧ w' = qbox49 w A len cap last s := by
  go_enter Try.func35, Try.ntmps35
  go_wp2
  go_ret
  exact ⟨rfl, rfl⟩
set_option maxRecDepth 100000 in
set_option maxHeartbeats 2000000 in
/-- The iterator over the cells of a state, for every loop body that keeps what lay below n₀. -/
theorem in149_in (F : Fence) (n : Nat) (hf : F.fn 54) (hro : F.round = none) (hn : 1 ≤ n) (l Bq Bk n₀ : Nat) (A : Option Addr) (c : Nat) (xs : List S49) (s : Int) (hbig : xs.length ≤ 1000000) (J Jx : List (Fin xs.length) → World → Prop)
    (W : World) (hn0 : n₀ ≤ W.heap.size) (hJ : AbidesFrom W.heap.size J)
    (hY : ∀ pre (x : Fin xs.length) W, J pre W → pre.length < xs.length → YieldAt F (n - 1) Try.prog l #[.int .i64 (x.val : Int)] W fun e W' =>
      (e = .returned (.bool true) ∧ J (pre ++ [x]) W' ∧ KpB n₀ Bk W W') ∨ (e = .returned (.bool false) ∧ Jx (pre ++ [x]) W'))
    (hBk : Bk < W.heap.size) (hq0 : W.cell? ⟨Bq, 0, none⟩ = some (.slice A xs.length c)) (hk0 : W.cell? ⟨Bk, 0, none⟩ = some (.int .i64 s)) (hC : ∀ W', Below n₀ W W' → Kd.C k49 W' A xs.length xs) (h0 : J [] W) :
    CallsIn F n Try.prog 54 #[.func (.yield l) #[] #[], .pointer (some ⟨Bq, 0, none⟩), .pointer (some ⟨Bk, 0, none⟩)] W fun e W' => (∃ v, e = .returned v) ∧
      ((∃ ys, fvs ys = inS S49.f0 xs s ∧ J ys W') ∨ (∃ pre, fvs pre <+: inS S49.f0 xs s ∧ Jx pre W')) := by
  have HC := Aside0.mk hC
  clear hC
  refine callsIn_of_wp Try.func54 rfl hf ?_ hro
  simp only [Try.ntmps54, List.size_toArray, List.length_cons, List.length_nil, Nat.reduceAdd, Nat.reduceSub, Array.replicate_succ, Array.replicate_zero, List.push_toArray, List.append_toArray, List.nil_append, List.cons_append]
  gi_wp2
  gi_loopw [9] (fun i wr => ∃ k : Nat, k ≤ xs.length ∧ i = .int .i64 k ∧ (∃ js : List (Fin xs.length), fvs js = inTo S49.f0 xs s k ∧ J js wr) ∧ KpB n₀ Bk W wr)
    (fun i _ => xs.length - (intOf i).toNat)
  case atStart => exact ⟨0, Nat.zero_le _, rfl, ⟨[], rfl, h0⟩, KpB.refl _ _ _⟩
  case round =>
    obtain ⟨k, hk, rfl, ⟨js, hjs, hJs⟩, hnx⟩ := hrel
    by_cases hlt : k < xs.length
    · obtain ⟨ad, e, hcx, hcy, hcz⟩ := at_T49 (HC.out wr hnx.1) (k : Int) (by omega) (by omega)
      cases e
      rw [Int.toNat_natCast] at hcx hcy hcz
      have hk1 : wr.cell? ⟨Bk, 0, none⟩ = some (.int .i64 s) := hnx.cell hk0
      have hbA : KpB n₀ Bk wr (wr.alloc (.cells #[.int .i64 (rd_T49 xs (k : Int)).f0, .int .i64 (rd_T49 xs (k : Int)).f1, .int .i64 (rd_T49 xs (k : Int)).f2] 49)) := KpB.alloc (Nat.le_trans hn0 hnx.1.size) (Nat.lt_of_lt_of_le hBk hnx.1.size) _
      have hk2 : (wr.alloc (.cells #[.int .i64 (rd_T49 xs (k : Int)).f0, .int .i64 (rd_T49 xs (k : Int)).f1, .int .i64 (rd_T49 xs (k : Int)).f2] 49)).cell? ⟨Bk, 0, none⟩ = some (.int .i64 s) := hbA.cell hk1
      have hJA := hJ _ _ _ none hJs (World.grownBy_alloc wr (.cells #[.int .i64 (rd_T49 xs (k : Int)).f0, .int .i64 (rd_T49 xs (k : Int)).f1, .int .i64 (rd_T49 xs (k : Int)).f2] 49) none) (fun r e => by cases e)
      have hrd : rd_T49 xs (k : Int) = xs[k] := by unfold rd_T49; rw [Int.toNat_natCast, List.getD_eq_getElem?_getD, List.getElem?_eq_getElem hlt]; rfl
      have hst := inTo_step S49.f0 xs s k hlt
      have hlen := inTo_len S49.f0 xs s k
      rw [← hjs, fvs_len] at hlen
      rw [← hrd, ← hjs] at hst
      cases hx : ((rd_T49 xs (k : Int)).f0 == s) with
      | true =>
        rw [hx, if_pos rfl] at hst
        have HS := Aside0.mk (fvs_snoc hlt hst)
        obtain ⟨fn, tmps, assign, body, hy, hR⟩ := hY _ ⟨k, hlt⟩ _ hJA (by omega)
        clear hst hrd hjs
        gi_wp2
        refine hR.mono ?_
        rintro e W3 (⟨rfl, hJ3, hk3⟩ | ⟨rfl, hJx3⟩)
        · gi_wp2
          go_roundw
          case rel => exact ⟨k + 1, by omega, by simp, ⟨_, HS.out, hJ3⟩, (hnx.trans hbA).trans hk3⟩
          case measure => simp [intOf]; omega
        · gi_wp2
          refine bodyPost_ret (results_none rfl _ _ _) rfl ?_
          exact ⟨⟨_, rfl⟩, .inr ⟨_, by rw [HS.out]; exact inTo_prefix _ _ _ _ (by omega), hJx3⟩⟩
      | false =>
        rw [hx, if_neg (by decide)] at hst
        have HS := Aside0.mk hst.symm
        clear hst hrd hjs
        gi_wp2
        refine ⟨fun _ h => (by cases h), ?_⟩
        gi_wp2
        go_roundw
        case rel => exact ⟨k + 1, by omega, by simp, ⟨_, HS.out, hJA⟩, hnx.trans hbA⟩
        case measure => simp [intOf]; omega
    · obtain rfl : k = xs.length := by omega
      gi_wp2
      go_end0
      exact ⟨⟨_, rfl⟩, .inl ⟨_, hjs.trans (inTo_all _ _ _), hJs⟩⟩
theorem in49_stops (F : Fence) (n : Nat) (hf : F.fn 54) (hro : F.round = none) (hn : 1 ≤ n) (Bq Bk n₀ : Nat) (A : Option Addr) (c : Nat) (xs : List S49) (s : Int) (hbig : xs.length ≤ 1000000) (w : World) (hBq : Bq < w.heap.size) (hBk : Bk < w.heap.size)
    (hn₀ : n₀ ≤ w.heap.size) (hc0 : w.cell? ⟨Bq, 0, none⟩ = some (.slice A xs.length c)) (hc2 : w.cell? ⟨Bk, 0, none⟩ = some (.int .i64 s)) (hC : ∀ W', Below n₀ w W' → Kd.C k49 W' A xs.length xs) :
    SeqStopsK F n Try.prog 54 #[.pointer (some ⟨Bq, 0, none⟩), .pointer (some ⟨Bk, 0, none⟩)] (fun x : Fin xs.length => #[Value.int .i64 (x.val : Int)]) (KpB n₀ Bk) (fun ys => fvs ys = inS S49.f0 xs s) (fun pre => fvs pre <+: inS S49.f0 xs s) xs.length w := fun l J Jx W hW hJ _ hY h0 =>
  in149_in F n hf hro hn l Bq Bk n₀ A c xs s hbig J Jx W (Nat.le_trans hn₀ hW.size) hJ hY (Nat.lt_of_lt_of_le hBk hW.size) ((hW.cell (p := ⟨Bq, 0, none⟩) hBq).trans hc0) ((hW.cell (p := ⟨Bk, 0, none⟩) hBk).trans hc2) (fun W' hb => hC W' ((hW.mono hn₀).trans hb)) h0

/-- A handle, as the program packs it. -/
theorem u64_23 : IntKind.u64.wrap 23 = 23 := by decide
theorem u64_9 : IntKind.u64.wrap 9 = 9 := by decide
set_option maxHeartbeats 2000000 in
theorem within_c (n m : Int) (w : World) : Calls Try.prog 56 #[.int .i64 n, .int .i64 m] w fun e w' => e = .returned (.bool (decide (IntKind.u64.wrap n ≤ IntKind.u64.wrap m))) ∧ w' = w := by
  go_enter Try.func56, Try.ntmps56
  go_wp2
  go_ret
  exact ⟨rfl, rfl⟩
set_option maxHeartbeats 2000000 in
theorem pack_c (s g : Int) (w : World) : Calls Try.prog 38 #[.int .i64 s, .int .i64 g] w fun e w' => e = .returned (.int .i64 (pk s g)) ∧ w' = w := by
  obtain ⟨b1, h1⟩ : ∃ b, decide (IntKind.u64.wrap s ≤ IntKind.u64.wrap 23) = b := ⟨_, rfl⟩
  obtain ⟨b2, h2⟩ : ∃ b, decide (IntKind.u64.wrap g ≤ IntKind.u64.wrap 9) = b := ⟨_, rfl⟩
  have hp : pk s g = if (b1 && b2) = true then wrap64 (1 + (Go.bits .or .i64 (wrap64 (g * 32)) s)) else 0 := by rw [← h1, ← h2]; rfl
  have H1 := Aside0.mk h1
  have H2 := Aside0.mk h2
  have HP := Aside0.mk hp
  clear h1 h2 hp
  cases b1 with
  | false =>
    go_enter Try.func38, Try.ntmps38
    go_wp2_with (go_at_call 56; refine (within_c _ _ _).mono ?_; rintro e w' ⟨rfl, rfl⟩; rw [H1.out])
    go_ret
    exact ⟨by rw [HP.out]; rfl, rfl⟩
  | true =>
    cases b2 with
    | false =>
      go_enter Try.func38, Try.ntmps38
      go_wp2_with (go_at_call 56; refine (within_c _ _ _).mono ?_; rintro e w' ⟨rfl, rfl⟩; first | rw [H1.out] | rw [H2.out])
      go_ret
      exact ⟨by rw [HP.out]; rfl, rfl⟩
    | true =>
      go_enter Try.func38, Try.ntmps38
      go_wp2_with (go_at_call 56; refine (within_c _ _ _).mono ?_; rintro e w' ⟨rfl, rfl⟩; first | rw [H1.out] | rw [H2.out])
      go_ret
      
      exact ⟨by rw [HP.out]; rfl, rfl⟩
theorem row049 (w : World) : Kd.R k49 49 (w.alloc (.cells #[] 49)) w.heap.size (fun k => w.heap.size ≤ k) (.slice (some ⟨w.heap.size, 0, none⟩) 0 0) [] :=
  ⟨fun k hk => by simp [Value.ownBlock] at hk; omega, [], ⟨rfl, .inr ⟨w.heap.size, 0, #[], rfl, Nat.le_refl _, blk_new w _, Nat.le_refl _, by decide, rfl, rfl⟩⟩, rfl, fun j p hj => by simp at hj⟩
theorem flat49 : Steps.Flat k49 := Steps.flat_iso _ (Steps.flat_pair (Steps.flat_int _) (Steps.flat_pair (Steps.flat_int _) (Steps.flat_int _)))
set_option maxRecDepth 100000 in
set_option maxHeartbeats 4000000 in
theorem clone49_c (A : Option Addr) (c : Nat) (xs : List S49) (w : World) (hpos : 0 < xs.length) (hbig : xs.length ≤ 1000000) (hC : Kd.C k49 w A xs.length xs) :
    Calls Try.prog 55 #[.slice A xs.length c] w fun e w' => ∃ v, e = .returned v ∧ Kd.R k49 49 w' w.heap.size (fun k => w.heap.size ≤ k) v xs ∧ Below w.heap.size w w' := by
  obtain ⟨ad, rfl, _⟩ := hC.2.2 hpos
  have HC := Aside0.mk hC
  have HR := Aside0.mk (row049 w)
  have HB := Aside0.mk (show Below w.heap.size w (w.alloc (.cells #[] 49)) from (Below.refl _ _).alloc (Nat.le_refl _) _)
  have HBIG := Aside0.mk hbig
  have hnil := Lib.run_eql_slice_nil (P := Try.prog) w 22 49 (some ad) xs.length c 0 0 Try.underlying22
  clear hC hbig
  go_enter Try.func55, Try.ntmps55
  go_wp2_with (at_builtin; go_must (refine Kd.R_append_rows k49 (w0 := w) w.heap.size rfl (.tmp 5) (.tmp 6) 22 49 (.agg #[.int .i64 0, .int .i64 0, .int .i64 0]) 24 rfl Try.underlying22 info49 rfl (by decide) (by decide) (.slice (some ⟨w.heap.size, 0, none⟩) 0 0) [] xs (some ad) xs.length c (fun k => w.heap.size ≤ k) (fun _ => False) rfl rfl HR.out (Kd.C_below HC.out HB.out) (fun x cs h => flat49 _ _ _ _ _ _ h) (fun _ h => h.elim) (fun k hk => by rw [World.size_alloc] at hk; omega) HB.out (by simp) (by have := HBIG.out; simp; omega) ?_); intro v1 w1 ho hb hg _; rw [List.nil_append] at ho; have HO := Aside0.mk ho; have HB1 := Aside0.mk hb; clear ho hb hg)
  go_ret
  exact ⟨_, rfl, HO.out, HB1.out⟩

set_option maxRecDepth 100000 in
set_option maxHeartbeats 4000000 in
theorem turn49_c (fd : Nat) (caps : Array Value) (heg : ∀ args w, (callFunc fd args).run Try.prog w = .ok (.enter fd args) w) (A : Option Addr) (c : Nat) (xs : List S49) (last : Int) (i : Nat) (hi : i < xs.length) (y : S49) (w : World) (hbig : xs.length ≤ 1000000) (hC : Kd.C k49 w A xs.length xs)
    (hdo : ∀ (W : World) (g cap : Nat), Below w.heap.size w W → w.heap.size ≤ g → Kd.R k49 49 W w.heap.size (fun k => w.heap.size ≤ k) (.slice (some ⟨g, 0, none⟩) xs.length cap) xs →
      Calls Try.prog fd (#[.pointer (some ⟨g, i * 3, none⟩)] ++ caps) W fun e W' => (∃ v, e = .returned v) ∧ Kd.R k49 49 W' w.heap.size (fun k => w.heap.size ≤ k) (.slice (some ⟨g, 0, none⟩) xs.length cap) (xs.set i y) ∧ KeepBut W W' g none ∧ Below w.heap.size W W') :
    Calls Try.prog 36 #[.agg #[.slice A xs.length c, .int .i64 last], .int .i64 (i : Int), .func (.func fd) #[] caps] w fun e w' => ∃ g cap, e = .returned (.agg #[.slice (some ⟨g, 0, none⟩) xs.length cap, .int .i64 last]) ∧ Kd.R k49 49 w' w.heap.size (fun k => w.heap.size ≤ k) (.slice (some ⟨g, 0, none⟩) xs.length cap) (xs.set i y) ∧ Below w.heap.size w w' := by
  have hpos : 0 < xs.length := by omega
  have HC := Aside0.mk hC
  have HD := Aside0.mk hdo
  have HBIG := Aside0.mk hbig
  have hB0 : Below w.heap.size w ((w.alloc (.cells #[.slice A xs.length c, .int .i64 last] 24)).alloc (.cells #[.slice none 0 0, .int .i64 0] 24)) := ((Below.refl _ _).alloc (Nat.le_refl _) _).alloc (by simp) _
  have HB0 := Aside0.mk hB0
  have HK0 := Aside0.mk (show ((w.alloc (.cells #[.slice A xs.length c, .int .i64 last] 24)).alloc (.cells #[.slice none 0 0, .int .i64 0] 24)).heap[w.heap.size]? = some (.cells #[.slice A xs.length c, .int .i64 last] 24 (0, 0)) from blk_alloc (blk_new w _) _)
  have HK1 := Aside0.mk (show ((w.alloc (.cells #[.slice A xs.length c, .int .i64 last] 24)).alloc (.cells #[.slice none 0 0, .int .i64 0] 24)).heap[w.heap.size + 1]? = some (.cells #[.slice none 0 0, .int .i64 0] 24 (0, 0)) by have h := blk_new (w.alloc (.cells #[.slice A xs.length c, .int .i64 last] 24)) (.cells #[.slice none 0 0, .int .i64 0] 24); rw [World.size_alloc] at h; exact h)
  clear hC hdo hbig hB0
  go_enter Try.func36, Try.ntmps36
  go_wp2_with (go_at_call 55; go_must (refine (clone49_c A c xs _ hpos HBIG.out (Kd.C_below HC.out HB0.out)).mono ?_; rintro e w1 ⟨v1, rfl, ho, hb⟩; obtain ⟨g, cap, rfl, hg, hgl, _⟩ := Kd.R_form ho hpos; have BK0 := Aside0.mk (blk_below HK0.out hb); have BK1 := Aside0.mk (blk_below HK1.out hb); have HO := Aside0.mk ho; have HB1 := Aside0.mk (HB0.out.trans (hb.mono (Nat.le_trans (Nat.le_add_right _ 2) (by simp)))); have hg2 : w.heap.size + 2 ≤ g := (by simp at hg; omega); have hcz0 : w1.cell? ⟨w.heap.size, 0, none⟩ = some (.slice A xs.length c) := (blk_cell BK0.out 0).trans rfl; have hfz0 := blk_frozen BK0.out 0; clear ho hb hg))
  rename_i K Q' _ _
  have hW2 : Below w.heap.size w (w1.setCell ⟨w.heap.size, 0, none⟩ (.slice (some ⟨g, 0, none⟩) xs.length cap)) := HB1.out.setCell (p := ⟨w.heap.size, 0, none⟩) (Nat.le_refl _) _
  have hR2 : Kd.R k49 49 (w1.setCell ⟨w.heap.size, 0, none⟩ (.slice (some ⟨g, 0, none⟩) xs.length cap)) w.heap.size (fun k => w.heap.size ≤ k) (.slice (some ⟨g, 0, none⟩) xs.length cap) xs :=
    Kd.R_mono (Kd.R_lower (Kd.R_far HO.out (p := ⟨w.heap.size, 0, none⟩) (fun k hk => by simp at hk ⊢; omega) _) (by simp; omega)) (fun k hk => by simp at hk; omega)
  have q0 : (w1.setCell ⟨w.heap.size, 0, none⟩ (.slice (some ⟨g, 0, none⟩) xs.length cap)).heap[w.heap.size]? = some (.cells #[.slice (some ⟨g, 0, none⟩) xs.length cap, .int .i64 last] 24 (0, 0)) := blk_put BK0.out 0 _ rfl
  have q1 : (w1.setCell ⟨w.heap.size, 0, none⟩ (.slice (some ⟨g, 0, none⟩) xs.length cap)).heap[w.heap.size + 1]? = some (.cells #[.slice none 0 0, .int .i64 0] 24 (0, 0)) := (Below.heap_setCell _ _ _ _ (by simp)).trans BK1.out
  refine (HD.out _ g cap hW2 (by omega) hR2).mono ?_
  rintro e w3 ⟨⟨v3, rfl⟩, hR3, hk3, hb3⟩
  have e0 := Aside0.mk (hk3.blk q0 (by omega) (by simp))
  have e1 := Aside0.mk (hk3.blk q1 (by omega) (by simp))
  have cz0 : w3.cell? ⟨w.heap.size, 0, none⟩ = some (.slice (some ⟨g, 0, none⟩) xs.length cap) := (blk_cell e0.out 0).trans rfl
  have cz1 : w3.cell? ⟨w.heap.size, 1, none⟩ = some (.int .i64 last) := (blk_cell e0.out 1).trans rfl
  have dz0 : w3.cell? ⟨w.heap.size + 1, 0, none⟩ = some (.slice none 0 0) := (blk_cell e1.out 0).trans rfl
  have dz1 : w3.cell? ⟨w.heap.size + 1, 1, none⟩ = some (.int .i64 0) := (blk_cell e1.out 1).trans rfl
  have df0 := blk_frozen e1.out 0
  have df1 := blk_frozen e1.out 1
  have HR3 := Aside0.mk hR3
  have HB3 := Aside0.mk (hW2.trans hb3)
  clear hR3 hb3 hk3 hR2 hW2 q0 q1
  go_wp2
  refine bodyPost_ret (results_cell_row rfl _ _ (w.heap.size + 1) 24 #[.slice (some ⟨g, 0, none⟩) xs.length cap, .int .i64 last] (0, 0) _ rfl (by refine blk_put (cs := #[.slice (some ⟨g, 0, none⟩) xs.length cap, .int .i64 0]) ?_ 1 _ rfl; refine blk_put (cs := #[.slice none 0 0, .int .i64 0]) ?_ 0 _ rfl; exact e1.out) Try.underlying24 rfl (by kernel_rfl)) rfl ?_
  have hT : ∀ q, q ∈ 49 :: k49.E → q ≠ 24 := fun q hq => by have h0 : k49.E = [] := rfl; rw [h0] at hq; simp at hq; omega
  have a1 := Kd.R_set HR3.out e1.out hT 0 (.slice (some ⟨g, 0, none⟩) xs.length cap)
  have a2 := Kd.R_set a1 (blk_put (cs := #[.slice none 0 0, .int .i64 0]) e1.out 0 _ rfl) hT 1 (.int .i64 last)
  exact ⟨_, _, rfl, a2, (HB3.out.setCell (p := ⟨w.heap.size + 1, 0, none⟩) (by simp) _).setCell (p := ⟨w.heap.size + 1, 1, none⟩) (by simp) _⟩

theorem put49 {W : World} {base g cap : Nat} {ok : Nat → Prop} {xs : List S49} (h : Kd.R k49 49 W base ok (.slice (some ⟨g, 0, none⟩) xs.length cap) xs) (i : Nat) (hi : i < xs.length) (y : S49) (j : Nat) (u : Value) (hj : j < 3)
    (hy : [Value.int .i64 y.f0, Value.int .i64 y.f1, .int .i64 y.f2] = [Value.int .i64 (xs.getD i z49).f0, Value.int .i64 (xs.getD i z49).f1, .int .i64 (xs.getD i z49).f2].take j ++ [u] ++ [Value.int .i64 (xs.getD i z49).f0, Value.int .i64 (xs.getD i z49).f1, .int .i64 (xs.getD i z49).f2].drop (j + 1)) :
    Kd.R k49 49 (W.setCell ⟨g, i * 3 + j, none⟩ u) base ok (.slice (some ⟨g, 0, none⟩) xs.length cap) (xs.set i y) := by
  obtain ⟨c, hcl, hM, hcc, _⟩ := Kd.R_elem h z49 (i : Int) (by omega) (by omega)
  rw [Int.toNat_natCast] at hM hcc
  cases k49_openM hM
  have := (Kd.R_seg h (i : Int) (by omega) (by omega) (seg := [u]) (j := j) (okp := fun _ => False) (x' := y) hcl (by rw [Int.toNat_natCast]; exact hcc) (by show j + 1 ≤ 3; omega) (by have := k49_mkM W base (fun _ => False) y; rw [hy] at this; exact this) (fun _ h => h.elim)).1
  rw [Int.toNat_natCast] at this
  exact this
theorem setD49 (xs : List S49) (i : Nat) (hi : i < xs.length) (y : S49) : (xs.set i y).getD i z49 = y := by simp [List.getD_eq_getElem?_getD, hi]
/-- Two fields written. -/
theorem put249 {W : World} {base g cap : Nat} {ok : Nat → Prop} {xs : List S49} (h : Kd.R k49 49 W base ok (.slice (some ⟨g, 0, none⟩) xs.length cap) xs) (i : Nat) (hi : i < xs.length) (y1 y : S49) (j j' : Nat) (u u' : Value) (hj : j < 3) (hj' : j' < 3)
    (hy : [Value.int .i64 y1.f0, Value.int .i64 y1.f1, .int .i64 y1.f2] = [Value.int .i64 (xs.getD i z49).f0, Value.int .i64 (xs.getD i z49).f1, .int .i64 (xs.getD i z49).f2].take j ++ [u] ++ [Value.int .i64 (xs.getD i z49).f0, Value.int .i64 (xs.getD i z49).f1, .int .i64 (xs.getD i z49).f2].drop (j + 1))
    (hy' : [Value.int .i64 y.f0, Value.int .i64 y.f1, .int .i64 y.f2] = [Value.int .i64 y1.f0, Value.int .i64 y1.f1, .int .i64 y1.f2].take j' ++ [u'] ++ [Value.int .i64 y1.f0, Value.int .i64 y1.f1, .int .i64 y1.f2].drop (j' + 1)) :
    Kd.R k49 49 ((W.setCell ⟨g, i * 3 + j, none⟩ u).setCell ⟨g, i * 3 + j', none⟩ u') base ok (.slice (some ⟨g, 0, none⟩) xs.length cap) (xs.set i y) := by
  have h1 := put49 h i hi y1 j u hj hy
  have hl : (xs.set i y1).length = xs.length := by simp
  rw [← hl] at h1
  have h2 := put49 h1 i (by omega) y j' u' hj' (by rw [setD49 xs i hi y1]; exact hy')
  rw [hl, List.set_set] at h2
  exact h2
theorem cells49 {W : World} {base g cap : Nat} {ok : Nat → Prop} {xs : List S49} (h : Kd.R k49 49 W base ok (.slice (some ⟨g, 0, none⟩) xs.length cap) xs) (i : Nat) (hi : i < xs.length) :
    W.cell? ⟨g, i * 3, none⟩ = some (.int .i64 (xs.getD i z49).f0) ∧ W.cell? ⟨g, i * 3 + 1, none⟩ = some (.int .i64 (xs.getD i z49).f1) ∧ W.cell? ⟨g, i * 3 + 2, none⟩ = some (.int .i64 (xs.getD i z49).f2) ∧ W.frozen? ⟨g, i * 3, none⟩ = false ∧ W.frozen? ⟨g, i * 3 + 1, none⟩ = false ∧ W.frozen? ⟨g, i * 3 + 2, none⟩ = false := by
  obtain ⟨c, hcl, hM, hcc, hf⟩ := Kd.R_elem h z49 (i : Int) (by omega) (by omega)
  rw [Int.toNat_natCast] at hM hcc hf
  cases k49_openM hM
  exact ⟨hcc 0 _ rfl, hcc 1 _ rfl, hcc 2 _ rfl, hf 0, hf 1, hf 2⟩
set_option maxRecDepth 100000 in
set_option maxHeartbeats 4000000 in
/-- What Take does to its cell. -/
theorem take149_do (w : World) (bv : Nat) (hbv : bv < w.heap.size) (v : Int) (hv : w.cell? ⟨bv, 0, none⟩ = some (.int .i64 v)) (xs : List S49) (i : Nat) (hi : i < xs.length) (W : World) (g cap : Nat) (hB : Below w.heap.size w W) (hg : w.heap.size ≤ g) (hR : Kd.R k49 49 W w.heap.size (fun k => w.heap.size ≤ k) (.slice (some ⟨g, 0, none⟩) xs.length cap) xs) :
    Calls Try.prog 37 (#[.pointer (some ⟨g, i * 3, none⟩)] ++ #[.pointer (some ⟨bv, 0, none⟩)]) W fun e W' => (∃ v, e = .returned v) ∧ Kd.R k49 49 W' w.heap.size (fun k => w.heap.size ≤ k) (.slice (some ⟨g, 0, none⟩) xs.length cap) (xs.set i ⟨1, (xs.getD i z49).f1, v⟩) ∧ KeepBut W W' g none ∧ Below w.heap.size W W' := by
  obtain ⟨c0, c1, c2, f0, f1, f2⟩ := cells49 hR i hi
  have hv' : W.cell? ⟨bv, 0, none⟩ = some (.int .i64 v) := (hB.cell (p := ⟨bv, 0, none⟩) hbv).trans hv
  have HR := Aside0.mk hR
  clear hR hv hB
  go_enter Try.func37, Try.ntmps37
  go_region
  go_end0
  refine ⟨⟨_, rfl⟩, Kd.R_drew (put249 HR.out i hi ⟨1, (xs.getD i z49).f1, (xs.getD i z49).f2⟩ ⟨1, (xs.getD i z49).f1, v⟩ 0 2 _ _ (by decide) (by decide) rfl rfl), ((KeepBut.refl W g none).set_ _ _).set_ _ _, below_drew (((Below.refl _ W).setCell hg _).setCell hg _)⟩
set_option maxRecDepth 100000 in
set_option maxHeartbeats 4000000 in
/-- What Set does to its cell. -/
theorem set149_do (w : World) (bv : Nat) (hbv : bv < w.heap.size) (v : Int) (hv : w.cell? ⟨bv, 0, none⟩ = some (.int .i64 v)) (xs : List S49) (i : Nat) (hi : i < xs.length) (W : World) (g cap : Nat) (hB : Below w.heap.size w W) (hg : w.heap.size ≤ g) (hR : Kd.R k49 49 W w.heap.size (fun k => w.heap.size ≤ k) (.slice (some ⟨g, 0, none⟩) xs.length cap) xs) :
    Calls Try.prog 47 (#[.pointer (some ⟨g, i * 3, none⟩)] ++ #[.pointer (some ⟨bv, 0, none⟩)]) W fun e W' => (∃ v, e = .returned v) ∧ Kd.R k49 49 W' w.heap.size (fun k => w.heap.size ≤ k) (.slice (some ⟨g, 0, none⟩) xs.length cap) (xs.set i ⟨(xs.getD i z49).f0, (xs.getD i z49).f1, v⟩) ∧ KeepBut W W' g none ∧ Below w.heap.size W W' := by
  obtain ⟨c0, c1, c2, f0, f1, f2⟩ := cells49 hR i hi
  have hv' : W.cell? ⟨bv, 0, none⟩ = some (.int .i64 v) := (hB.cell (p := ⟨bv, 0, none⟩) hbv).trans hv
  have HR := Aside0.mk hR
  clear hR hv hB
  go_enter Try.func47, Try.ntmps47
  go_wp2
  go_end0
  exact ⟨⟨_, rfl⟩, put49 HR.out i hi ⟨(xs.getD i z49).f0, (xs.getD i z49).f1, v⟩ 2 _ (by decide) rfl, (KeepBut.refl W g none).set_ _ _, (Below.refl _ W).setCell hg _⟩

theorem keepsOthers_below49 {W W' : World} (h : Below W.heap.size W W') : KeepsOthers W W' := ⟨h.size, fun k o hk _ => (h.block k (blk_lt hk)).trans hk⟩
theorem blk_own49 {W W' : World} {row : Option Nat} {g t : Nat} {cs : Array Value} (h : W.heap[g]? = some (.cells cs t (0, 0))) (hg : W.grownBy W' row) (hr : ∀ r, row = some r → ∃ o : Obj, W.heap[r]? = some o ∧ o.isCells = false) : W'.heap[g]? = some (.cells cs t (0, 0)) := (grownBy_keeps_cells hg hr h rfl).trans h
theorem R_own49 {W W' : World} {row : Option Nat} {base : Nat} {ok : Nat → Prop} {v : Value} {xs : List S49} (h : Kd.R k49 49 W base ok v xs) (hg : W.grownBy W' row) (hr : ∀ r, row = some r → ∃ o : Obj, W.heap[r]? = some o ∧ o.isCells = false) : Kd.R k49 49 W' base ok v xs :=
  Kd.R_mono (Kd.R_step (Kd.R_bound h) (fun k hk _ => by obtain ⟨_, _, _, q, _, cells, hc⟩ := hk; exact grownBy_keeps_cells hg hr hc rfl)) (fun k hk => hk.1)
theorem inS_none49 {l : List S49} (h : inS S49.f0 l 0 = []) : frs S49.f0 l = none := by
  unfold inS at h
  unfold frs
  rw [List.findIdx?_eq_none_iff]
  intro x hx
  obtain ⟨i, hi, rfl⟩ := List.getElem_of_mem hx
  rw [List.map_eq_nil_iff, List.filter_eq_nil_iff] at h
  have := h i (by simpa using hi)
  rw [isS_at _ _ _ _ hi] at this
  simpa using this
theorem inS_first49 {l : List S49} {x : Int} (h : [x] <+: inS S49.f0 l 0) : ∃ i : Nat, x = (i : Int) ∧ i < l.length ∧ frs S49.f0 l = some i := by
  obtain ⟨t, ht⟩ := h
  unfold inS at ht
  have hso : ((List.range l.length).filter (isS S49.f0 l 0)).Pairwise (· < ·) := List.Pairwise.filter _ List.pairwise_lt_range
  have hmm : ∀ j, j ∈ (List.range l.length).filter (isS S49.f0 l 0) ↔ (j < l.length ∧ isS S49.f0 l 0 j = true) := fun j => by rw [List.mem_filter, List.mem_range]
  generalize (List.range l.length).filter (isS S49.f0 l 0) = F at ht hso hmm
  cases F with
  | nil => simp at ht
  | cons f1 f2 =>
    simp at ht
    have h1 := (hmm f1).1 (by simp)
    refine ⟨f1, ht.1, h1.1, ?_⟩
    unfold frs
    rw [List.findIdx?_eq_some_iff_getElem]
    refine ⟨h1.1, by have := h1.2; rw [isS_at _ _ _ _ h1.1] at this; exact this, fun j hj hz => ?_⟩
    have hjm := (hmm j).2 ⟨by omega, by rw [isS_at _ _ _ _ (by omega)]; exact hz⟩
    rcases List.mem_cons.1 hjm with rfl | hj2
    · omega
    · have := (List.pairwise_cons.1 hso).1 j hj2
      omega

section
variable {F : Fence} {n : Nat} {P : Program} {md : Region.Mode} {ops : Array Oper} {Q : Exit → Act → World → Prop}
/-- In a round an operation that defers nothing does what it does outside. -/
theorem wpOpIn_round (hro : F.round = none) (l : Nat) (hd : ∀ (i : Nat) (o : Oper), ops[i]? = some o → ∀ c : Call, o.op ≠ Op.defer c) (i : Nat) (K : Act → World → Prop) (a : Act) (w : World) :
    wpOpIn (F.inRound l) n P ops Q i K a w = wpOpIn F n P ops Q i K a w := by
  unfold wpOpIn
  cases h : ops[i]? with
  | none => rfl
  | some o =>
    simp only []
    have e1 : o.wpIn (F.inRound l) n P a w K Q = o.wpIn F n P a w K Q := by
      unfold Oper.wpIn
      rw [Fence.inRound_round, hro, Oper.semAt_some l _ _ (hd i o h), Oper.semAt_none]
      rfl
    rw [e1]
    rfl
theorem wpAnyIn_round (hro : F.round = none) (l : Nat) (hd : ∀ (i : Nat) (o : Oper), ops[i]? = some o → ∀ c : Call, o.op ≠ Op.defer c) : ∀ (fuel : Nat) (listed : Array Bool) (a : Act) (w : World),
    wpAnyIn (F.inRound l) n P md ops Q fuel listed a w = wpAnyIn F n P md ops Q fuel listed a w := by
  intro fuel
  induction fuel with
  | zero => intro listed a w; simp only [wpAnyIn]
  | succ fuel ih =>
    intro listed a w
    simp only [wpAnyIn]
    have e : ∀ i, wpAnyIn (F.inRound l) n P md ops Q fuel (listed.setIfInBounds i true) = wpAnyIn F n P md ops Q fuel (listed.setIfInBounds i true) := fun i => funext fun a => funext fun w => ih _ a w
    simp only [e, wpOpIn_round hro l hd]
/-- A region in a round: as outside. -/
theorem region_round (hro : F.round = none) (l : Nat) {ops : Array Oper} (hd : ops.toList.all (fun o : Oper => match o.op with | .defer _ => false | _ => true) = true) {id : Nat} {a : Act} {w : World} (hm : P.follows .mixedOrders = true)
    (h : wpAnyIn F n P .any ops Q ops.size (Array.replicate ops.size false) a w.drew) : (Code.region id ops true).wpIn (F.inRound l) n P Q a w := by
  refine wpIn_region_any hm ?_
  rw [wpAnyIn_round hro l (fun (i : Nat) (o : Oper) ho c hc => ?_)]
  · exact h
  · have hm : o ∈ ops.toList := by rw [Array.mem_toList_iff]; exact Array.mem_of_getElem? ho
    have := List.all_eq_true.1 hd o hm
    rw [hc] at this
    cases this
end
theorem results_take49 (tmps : Array Value) (w : World) (g4 g5 g6 : Nat) (x y u u' : Value) (h4 : tmps.getD 4 undef = .pointer (some ⟨g4, 0, none⟩)) (h5 : tmps.getD 5 undef = .pointer (some ⟨g5, 0, none⟩)) (h6 : tmps.getD 6 undef = .pointer (some ⟨g6, 0, none⟩))
    (b4 : w.heap[g4]? = some (.cells #[x, y] 24 (0, 0))) (b5 : w.heap[g5]? = some (.cells #[u] 3 (0, 0))) (b6 : w.heap[g6]? = some (.cells #[u'] 34 (0, 0))) : (results Try.f16 tmps).run Try.prog w = .ok (.tuple #[.agg #[x, y], u, u']) w := by
  have h4' : tmps[4]?.getD undef = .pointer (some ⟨g4, 0, none⟩) := by simpa using h4
  have h5' : tmps[5]?.getD undef = .pointer (some ⟨g5, 0, none⟩) := by simpa using h5
  have h6' : tmps[6]?.getD undef = .pointer (some ⟨g6, 0, none⟩) := by simpa using h6
  have c5 : w.cell? ⟨g5, 0, none⟩ = some u := (blk_cell b5 0).trans rfl
  have c6 : w.cell? ⟨g6, 0, none⟩ = some u' := (blk_cell b6 0).trans rfl
  have c40 : w.cell? ⟨g4, 0, none⟩ = some x := (blk_cell b4 0).trans rfl
  have c41 : w.cell? ⟨g4, 1, none⟩ = some y := (blk_cell b4 1).trans rfl
  simp [results, Try.f16, h4', h5', h6', asAddr, go_sem, c40, c41, c5, c6]
set_option maxRecDepth 100000 in
set_option maxHeartbeats 4000000 in
theorem takew49 (P0 : Nat → Prop) (A : Option Addr) (c : Nat) (xs : List S49) (last : Int) (v : Int) (hbig : xs.length ≤ 1000000) (w : World) (hV : Kd.V k49 49 w w.heap.size (fun k => P0 k) (.slice A xs.length c) xs) (r1 : List S49) (r3 r4 : Int)
    (hf : (match frs S49.f0 xs with | some i => (xs.set i ⟨1, (xs.getD i z49).f1, v⟩, pk (i : Int) (xs.getD i z49).f1, (0 : Int)) | none => (xs, 0, 4)) = (r1, r3, r4)) :
    Calls Try.prog 16 #[.agg #[.slice A xs.length c, .int .i64 last], .int .i64 v] w fun e w' => ∃ v0 : Value, e = .returned (.tuple #[.agg #[v0, .int .i64 last], .int .i64 r3, .int .i64 r4]) ∧ Kd.V k49 49 w' w.heap.size (fun k => P0 k ∨ w.heap.size ≤ k) v0 r1 ∧ Below w.heap.size w w' := by
  have HC := Aside0.mk (Kd.V_reads' hV).2.2
  have HV := Aside0.mk hV
  have HF := Aside0.mk hf
  clear hV hf
  refine (callsIn_wide (n := 5)).1 ?_
  refine callsIn_of_wp_marks Try.func16 rfl trivial ?_ rfl
  simp only [Try.ntmps16, List.size_toArray, List.length_cons, List.length_nil, Nat.reduceAdd, Nat.reduceSub, Array.replicate_succ, Array.replicate_zero, List.push_toArray, List.append_toArray, List.nil_append, List.cons_append]
  gi_wp2_with (refine ⟨trivial, ?_⟩; gi_at_call 35; refine (callsIn_wide.2 (in49_c _ _ _ _ _ _)).mono ?_; rintro e w' ⟨rfl, rfl⟩)
  obtain ⟨w5, hw5⟩ : ∃ w5, ((((w.alloc (.cells #[.slice A xs.length c, .int .i64 last] 24)).alloc (.cells #[.int .i64 v] 3)).alloc (.cells #[.slice none 0 0, .int .i64 0] 24)).alloc (.cells #[.int .i64 0] 3)).alloc (.cells #[.int .i64 0] 34) = w5 := ⟨_, rfl⟩
  have hB0 : Below w.heap.size w w5 := by rw [← hw5]; exact (((((Below.refl _ w).alloc (Nat.le_refl _) _).alloc (by simp) _).alloc (by simp; omega) _).alloc (by simp; omega) _).alloc (by simp; omega) _
  have hz5 : w5.heap.size = w.heap.size + 1 + 1 + 1 + 1 + 1 := by rw [← hw5]; simp
  have hB1 : Below w.heap.size w (qbox49 w5 A xs.length c last 0) := hB0.trans (qbox49_below _ _ _ _ _ _ (by omega))
  have HQ := qbox49_cells w5 A xs.length c last 0
  have hs := qbox49_size w5 A xs.length c last 0
  rw [hz5] at HQ hs
  have HS := Aside0.mk hs
  have b2 : w5.heap[w.heap.size]? = some (.cells #[.slice A xs.length c, .int .i64 last] 24 (0, 0)) := by rw [← hw5]; exact blk_alloc (blk_alloc (blk_alloc (blk_alloc (blk_new w _) _) _) _) _
  have b3 : w5.heap[w.heap.size + 1]? = some (.cells #[.int .i64 v] 3 (0, 0)) := by rw [← hw5]; refine blk_alloc (blk_alloc (blk_alloc ?_ _) _) _; have h := blk_new (w.alloc (.cells #[.slice A xs.length c, .int .i64 last] 24)) (.cells #[.int .i64 v] 3); rw [World.size_alloc] at h; exact h
  have b4 : w5.heap[w.heap.size + 1 + 1]? = some (.cells #[.slice none 0 0, .int .i64 0] 24 (0, 0)) := by rw [← hw5]; refine blk_alloc (blk_alloc ?_ _) _; have h := blk_new ((w.alloc (.cells #[.slice A xs.length c, .int .i64 last] 24)).alloc (.cells #[.int .i64 v] 3)) (.cells #[.slice none 0 0, .int .i64 0] 24); rw [World.size_alloc, World.size_alloc] at h; exact h
  have b5 : w5.heap[w.heap.size + 1 + 1 + 1]? = some (.cells #[.int .i64 0] 3 (0, 0)) := by rw [← hw5]; refine blk_alloc ?_ _; have h := blk_new (((w.alloc (.cells #[.slice A xs.length c, .int .i64 last] 24)).alloc (.cells #[.int .i64 v] 3)).alloc (.cells #[.slice none 0 0, .int .i64 0] 24)) (.cells #[.int .i64 0] 3); rw [World.size_alloc, World.size_alloc, World.size_alloc] at h; exact h
  have b6 : w5.heap[w.heap.size + 1 + 1 + 1 + 1]? = some (.cells #[.int .i64 0] 34 (0, 0)) := by rw [← hw5]; have h := blk_new ((((w.alloc (.cells #[.slice A xs.length c, .int .i64 last] 24)).alloc (.cells #[.int .i64 v] 3)).alloc (.cells #[.slice none 0 0, .int .i64 0] 24)).alloc (.cells #[.int .i64 0] 3)) (.cells #[.int .i64 0] 34); rw [World.size_alloc, World.size_alloc, World.size_alloc, World.size_alloc] at h; exact h
  have HBB := Aside0.mk hB1
  rw [hw5]
  clear hw5 hB0
  refine wpIn_rangeFunc_ownG rfl (by omega) (gf := 54) (lb := #[.pointer (some ⟨w.heap.size + 1 + 1 + 1 + 1 + 1, 0, none⟩), .pointer (some ⟨w.heap.size + 1 + 1 + 1 + 1 + 1 + 1, 0, none⟩)]) (by rw [← hz5]; rfl) trivial (enters_of Try.func54 (by kernel_rfl) rfl)
    (in49_stops Fence.wide 4 trivial rfl (by omega) (w.heap.size + 1 + 1 + 1 + 1 + 1) (w.heap.size + 1 + 1 + 1 + 1 + 1 + 1) w.heap.size A c xs 0 hbig _ (by rw [HS.out]; omega) (by rw [HS.out]; omega) (by rw [HS.out]; omega) HQ.1 HQ.2.2 (fun W' hb => Kd.C_below HC.out (hB1.trans hb))) KpB.trans (kpB_b (by rw [HS.out]; omega) (by rw [HS.out]; omega)) (Below.refl _ _) (fun _ => rfl)
    (fun pre W => (pre = [] ∧ W.heap[w.heap.size]? = some (.cells #[.slice A xs.length c, .int .i64 last] 24 (0, 0)) ∧ W.heap[w.heap.size + 1]? = some (.cells #[.int .i64 v] 3 (0, 0)) ∧ W.heap[w.heap.size + 1 + 1]? = some (.cells #[.slice none 0 0, .int .i64 0] 24 (0, 0)) ∧ W.heap[w.heap.size + 1 + 1 + 1]? = some (.cells #[.int .i64 0] 3 (0, 0)) ∧ W.heap[w.heap.size + 1 + 1 + 1 + 1]? = some (.cells #[.int .i64 0] 34 (0, 0))) ∧ Below w.heap.size w W)
    (fun c' pre W => (c' = .ret ∧ ∃ (x : Fin xs.length) (v0 : Value), pre = [x] ∧ W.heap[w.heap.size + 1 + 1]? = some (.cells #[v0, .int .i64 last] 24 (0, 0)) ∧ W.heap[w.heap.size + 1 + 1 + 1]? = some (.cells #[.int .i64 (pk (x.val : Int) (xs.getD x.val z49).f1)] 3 (0, 0)) ∧ W.heap[w.heap.size + 1 + 1 + 1 + 1]? = some (.cells #[.int .i64 0] 34 (0, 0)) ∧ Kd.R k49 49 W w.heap.size (fun k => w.heap.size ≤ k) v0 (xs.set x.val ⟨1, (xs.getD x.val z49).f1, v⟩)) ∧ Below w.heap.size w W)
    (OwnFrom.and (Own.from (fun s A B row hs hg hr => ⟨hs.1, blk_own49 hs.2.1 hg hr, blk_own49 hs.2.2.1 hg hr, blk_own49 hs.2.2.2.1 hg hr, blk_own49 hs.2.2.2.2.1 hg hr, blk_own49 hs.2.2.2.2.2 hg hr⟩) _) (ownFrom_below (Nat.le_refl _) (by rw [HS.out]; omega)))
    (fun c => OwnFrom.and (Own.from (fun s A B row hs hg hr => by obtain ⟨h1, x, v0, h2, h3, h4, h5, h6⟩ := hs; exact ⟨h1, x, v0, h2, blk_own49 h3 hg hr, blk_own49 h4 hg hr, blk_own49 h5 hg hr, R_own49 h6 hg hr⟩) _) (ownFrom_below (Nat.le_refl _) (by rw [HS.out]; omega)))
    ⟨⟨rfl, blk_alloc (blk_alloc b2 _) _, blk_alloc (blk_alloc b3 _) _, blk_alloc (blk_alloc b4 _) _, blk_alloc (blk_alloc b5 _) _, blk_alloc (blk_alloc b6 _) _⟩, hB1⟩
    (fun x => { tmps := #[.agg #[.slice A xs.length c, .int .i64 last], .int .i64 v, .pointer (some ⟨w.heap.size, 0, none⟩), .pointer (some ⟨w.heap.size + 1, 0, none⟩), .pointer (some ⟨w.heap.size + 1 + 1, 0, none⟩), .pointer (some ⟨w.heap.size + 1 + 1 + 1, 0, none⟩), .pointer (some ⟨w.heap.size + 1 + 1 + 1 + 1, 0, none⟩), .int .i64 (x.val : Int), undef, .agg #[.slice A xs.length c, .int .i64 last], .func (.func 54) #[] #[.pointer (some ⟨w.heap.size + 1 + 1 + 1 + 1 + 1, 0, none⟩), .pointer (some ⟨w.heap.size + 1 + 1 + 1 + 1 + 1 + 1, 0, none⟩)], .int .i64 (x.val : Int), undef, undef, undef, undef, undef, undef, undef, undef, undef, undef, undef, undef, undef, undef], defers := [] }) ?assign ?body ?done ?stop
  case assign =>
    intro l x W K hK
    gi_wp2
    exact hK
  case body =>
    rintro l pre x W ⟨⟨rfl, q2, q3, q4, q5, q6⟩, hB⟩ _
    have hCW := Kd.C_below HC.out hB
    obtain ⟨ad, eA, hcx, hcy, hcz⟩ := at_T49 hCW (x.val : Int) (by omega) (by have := x.isLt; omega)
    cases eA
    rw [Int.toNat_natCast] at hcx hcy hcz
    have hxl := x.isLt
    obtain ⟨y0, hy0⟩ : ∃ y0 : S49, y0 = xs.getD x.val z49 := ⟨_, rfl⟩
    have hxv : rd_T49 xs (x.val : Int) = y0 := by unfold rd_T49; rw [Int.toNat_natCast, hy0]
    have k4 := blk_lt q4
    have k5 := blk_lt q5
    have k6 := blk_lt q6
    rw [hxv] at hcx hcy hcz
    have HB := Aside0.mk hB
    have Q2 := Aside0.mk q2
    have Q4 := Aside0.mk q4
    have Q5 := Aside0.mk q5
    have Q6 := Aside0.mk q6
    have a20 := (blk_cell q2 0).trans rfl
    have a21 := (blk_cell q2 1).trans rfl
    have a30 : W.cell? ⟨w.heap.size + 1, 0, none⟩ = some (.int .i64 v) := (blk_cell q3 0).trans rfl
    have hl3 := blk_lt q3
    obtain ⟨y, hy⟩ : ∃ y : S49, y = ⟨1, y0.f1, v⟩ := ⟨_, rfl⟩
    have HT := Aside0.mk (turn49_c 37 #[.pointer (some ⟨w.heap.size + 1, 0, none⟩)] (enters_of Try.func37 (by kernel_rfl) rfl) (some ad) c xs last x.val hxl y W hbig hCW (fun W' g cap hb hg hR => by rw [hy, hy0]; exact take149_do W (w.heap.size + 1) hl3 v a30 xs x.val hxl W' g cap hb hg hR))
    have HY0 := Aside0.mk hy0
    have HYY := Aside0.mk hy
    clear hB q2 q3 q4 q5 q6 a30 hcx hcy hcz hCW hy hy0
    gi_wp2_with (refine ⟨trivial, ?_⟩; gi_at_call 36; refine (CallsIn.inRound l (callsIn_wide.2 HT.out)).mono ?_; rintro e w1 ⟨g, cap, rfl, hR1, hB1⟩; have r2 := blk_below Q2.out hB1; have r4 := blk_below Q4.out hB1; have r5 := blk_below Q5.out hB1; have r6 := blk_below Q6.out hB1; have hb1 := HB.out.trans (hB1.mono HB.out.size); obtain ⟨ad1, eA, hcx, hcy, hcz⟩ := at_T49 (Kd.C_below HC.out hb1) (x.val : Int) (by omega) (by have := x.isLt; omega); cases eA; rw [Int.toNat_natCast] at hcx hcy hcz; rw [hxv] at hcx hcy hcz; have g2 := blk_lt r2; have g4 := blk_lt r4; have g5 := blk_lt r5; have g6 := blk_lt r6; have c20 := (blk_cell r2 0).trans rfl; have c21 := (blk_cell r2 1).trans rfl; have c40 := (blk_cell r4 0).trans rfl; have c41 := (blk_cell r4 1).trans rfl; have c50 := (blk_cell r5 0).trans rfl; have c60 := (blk_cell r6 0).trans rfl; have f40 := blk_frozen r4 0; have f41 := blk_frozen r4 1; have f50 := blk_frozen r5 0; have f60 := blk_frozen r6 0; have R4 := Aside0.mk r4; have R5 := Aside0.mk r5; have R6 := Aside0.mk r6; have HR1 := Aside0.mk hR1; have HB1 := Aside0.mk hB1; have HB2 := Aside0.mk hb1; clear r2 r4 r5 r6 hR1 hB1 hb1)
    have hcy2 := cell_alloc_l (.cells #[.slice (some ⟨g, 0, none⟩) xs.length cap, .int .i64 last] 24) hcy
    have hmx : Try.prog.follows .mixedOrders = true := by kernel_rfl
    clear HQ hs HS HBB b2 b3 b4 b5 b6 HT HF HV
    refine region_round rfl l (by kernel_rfl) hmx ?_
    simp only [List.size_toArray, List.length_cons, List.length_nil, Nat.reduceAdd, Array.replicate_succ, Array.replicate_zero, List.push_toArray, List.append_toArray, List.nil_append, List.cons_append]
    have fin : KeepsFrom (qbox49 w5 (some ad) xs.length c last 0).heap.size W ((((((w1.setCell ⟨w.heap.size + 1 + 1, 0, none⟩ (.slice (some ⟨g, 0, none⟩) xs.length cap)).setCell ⟨w.heap.size + 1 + 1, 1, none⟩ (.int .i64 last)).setCell ⟨w.heap.size + 1 + 1 + 1, 0, none⟩ (.int .i64 (pk (x.val : Int) y0.f1))).setCell ⟨w.heap.size + 1 + 1 + 1 + 1, 0, none⟩ (.int .i64 0)).alloc (.cells #[.slice (some ⟨g, 0, none⟩) xs.length cap, .int .i64 last] 24)).drew) ∧ (fun W : World => (∃ (x_1 : Fin xs.length) (v0 : Value), [x] = [x_1] ∧ W.heap[w.heap.size + 1 + 1]? = some (.cells #[v0, .int .i64 last] 24 (0, 0)) ∧ W.heap[w.heap.size + 1 + 1 + 1]? = some (.cells #[.int .i64 (pk (x_1.val : Int) (xs.getD x_1.val z49).f1)] 3 (0, 0)) ∧ W.heap[w.heap.size + 1 + 1 + 1 + 1]? = some (.cells #[.int .i64 0] 34 (0, 0)) ∧ Kd.R k49 49 W w.heap.size (fun k => w.heap.size ≤ k) v0 (xs.set x_1.val ⟨1, (xs.getD x_1.val z49).f1, v⟩)) ∧ Below w.heap.size w W) ((((((w1.setCell ⟨w.heap.size + 1 + 1, 0, none⟩ (.slice (some ⟨g, 0, none⟩) xs.length cap)).setCell ⟨w.heap.size + 1 + 1, 1, none⟩ (.int .i64 last)).setCell ⟨w.heap.size + 1 + 1 + 1, 0, none⟩ (.int .i64 (pk (x.val : Int) y0.f1))).setCell ⟨w.heap.size + 1 + 1 + 1 + 1, 0, none⟩ (.int .i64 0)).alloc (.cells #[.slice (some ⟨g, 0, none⟩) xs.length cap, .int .i64 last] 24)).drew) := by
      refine ⟨(((((((keepsOthers_below49 HB1.out).trans (KeepsOthers.setCell _ _ _)).trans (KeepsOthers.setCell _ _ _)).trans (KeepsOthers.setCell _ _ _)).trans (KeepsOthers.setCell _ _ _)).trans (KeepsOthers.alloc _ _)).trans (KeepsOthers.drew _)).from _, ⟨x, .slice (some ⟨g, 0, none⟩) xs.length cap, rfl, ?_, ?_, ?_, ?_⟩, ?_⟩
      · refine blk_drew (blk_alloc ?_ _)
        exact (Below.heap_setCell _ _ _ _ (by dsimp only; omega)).trans ((Below.heap_setCell _ _ _ _ (by dsimp only; omega)).trans (blk_put (cs := #[.slice (some ⟨g, 0, none⟩) xs.length cap, .int .i64 0]) (blk_put (cs := #[.slice none 0 0, .int .i64 0]) R4.out 0 _ rfl) 1 _ rfl))
      · refine blk_drew (blk_alloc ?_ _)
        rw [← HY0.out]
        exact (Below.heap_setCell _ _ _ _ (by dsimp only; omega)).trans (blk_put (cs := #[.int .i64 0]) ((Below.heap_setCell _ _ _ _ (by dsimp only; omega)).trans ((Below.heap_setCell _ _ _ _ (by dsimp only; omega)).trans R5.out)) 0 _ rfl)
      · refine blk_drew (blk_alloc ?_ _)
        exact blk_put (cs := #[.int .i64 0]) ((Below.heap_setCell _ _ _ _ (by dsimp only; omega)).trans ((Below.heap_setCell _ _ _ _ (by dsimp only; omega)).trans ((Below.heap_setCell _ _ _ _ (by dsimp only; omega)).trans R6.out))) 0 _ rfl
      · rw [← HY0.out, ← HYY.out]
        refine Kd.R_drew (Kd.R_alloc (Kd.R_mono (Kd.R_lower ?_ HB.out.size) (fun k hk => Nat.le_trans HB.out.size hk)) _)
        exact Kd.R_far (p := ⟨w.heap.size + 1 + 1 + 1 + 1, 0, none⟩) (Kd.R_far (p := ⟨w.heap.size + 1 + 1 + 1, 0, none⟩) (Kd.R_far (p := ⟨w.heap.size + 1 + 1, 1, none⟩) (Kd.R_far (p := ⟨w.heap.size + 1 + 1, 0, none⟩) HR1.out (fun k hk => by simp; omega) _) (fun k hk => by simp; omega) _) (fun k hk => by simp; omega) _) (fun k hk => by simp; omega) _
      · exact below_drew (Below.alloc ((((HB2.out.setCell (p := ⟨w.heap.size + 1 + 1, 0, none⟩) (by simp; omega) _).setCell (p := ⟨w.heap.size + 1 + 1, 1, none⟩) (by simp; omega) _).setCell (p := ⟨w.heap.size + 1 + 1 + 1, 0, none⟩) (by simp; omega) _).setCell (p := ⟨w.heap.size + 1 + 1 + 1 + 1, 0, none⟩) (by simp; omega) _) (by simp; omega) _)
    have FN := Aside0.mk fin
    clear fin
    have hq : True := trivial
    · clear hq
      refine wpAnyIn_take (i := 1) (v := ?_) rfl rfl (by kernel_rfl) (by kernel_rfl) (by kernel_rfl) (fun _ _ _ h => h) ⟨Or.inl ⟨by rfl, ?_⟩, fun _ => rfl⟩ ?_
      rotate_left
      · (intro w; go_simp; with_reducible rfl)
      refine wpAnyIn_take (i := 2) (v := ?_) rfl rfl (by kernel_rfl) (by kernel_rfl) (by kernel_rfl) (fun _ _ _ h => h) ⟨Or.inl ⟨by rfl, ?_⟩, fun _ => rfl⟩ ?_
      rotate_left
      · (intro w; go_simp; with_reducible rfl)
      refine wpAnyIn_take (i := 4) (v := ?_) rfl rfl (by kernel_rfl) (by kernel_rfl) (by kernel_rfl) (fun _ _ _ h => h) ⟨Or.inl ⟨by rfl, ?_⟩, fun _ => rfl⟩ ?_
      rotate_left
      · (intro w; go_simp; with_reducible rfl)
      refine wpAnyIn_ready (rs := [0, 3]) (by kernel_rfl) (by simp) ?_
      refine AllReadyIn.cons rfl (fun K hK => ?_) ?_
      rotate_left
      refine AllReadyIn.cons rfl (fun K hK => ?_) ?_
      rotate_left
      exact AllReadyIn.nil
      · go_simp
        try (refine hK _ _ ?_; clear hK K)
        refine wpAnyIn_ready (rs := [3]) (by kernel_rfl) (by simp) ?_
        refine AllReadyIn.cons rfl (fun K hK => ?_) ?_
        rotate_left
        exact AllReadyIn.nil
        go_simp
        try (refine hK _ _ ?_; clear hK K)
        refine wpAnyIn_ready (rs := [5]) (by kernel_rfl) (by simp) ?_
        refine AllReadyIn.cons rfl (fun K hK => ?_) ?_
        rotate_left
        exact AllReadyIn.nil
        go_simp
        try (refine hK _ _ ?_; clear hK K)
        refine wpAnyIn_take (i := 6) (v := ?_) rfl rfl (by kernel_rfl) (by kernel_rfl) (by kernel_rfl) (fun _ _ _ h => h) ⟨Or.inl ⟨by rfl, ?_⟩, fun _ => rfl⟩ ?_
        rotate_left
        · (intro w; go_simp; with_reducible rfl)
        refine wpAnyIn_ready (rs := [7]) (by kernel_rfl) (by simp) ?_
        refine AllReadyIn.cons rfl (fun K hK => ?_) ?_
        rotate_left
        exact AllReadyIn.nil
        go_simp
        try (refine hK _ _ ?_; clear hK K)
        refine wpAnyIn_ready (rs := [8]) (by kernel_rfl) (by simp) ?_
        refine AllReadyIn.cons rfl (fun K hK => ?_) ?_
        rotate_left
        exact AllReadyIn.nil
        go_simp
        gi_wp2_with (refine ⟨trivial, ?_⟩; gi_at_call 38; refine (callsIn_wide.2 (pack_c _ _ _)).mono ?_; rintro e w' ⟨rfl, rfl⟩)
        try (refine hK _ _ ?_; clear hK K)
        refine wpAnyIn_ready (rs := [9]) (by kernel_rfl) (by simp) ?_
        refine AllReadyIn.cons rfl (fun K hK => ?_) ?_
        rotate_left
        exact AllReadyIn.nil
        go_simp
        try (refine hK _ _ ?_; clear hK K)
        refine wpAnyIn_ready (rs := [10]) (by kernel_rfl) (by simp) ?_
        refine AllReadyIn.cons rfl (fun K hK => ?_) ?_
        rotate_left
        exact AllReadyIn.nil
        go_simp
        try (refine hK _ _ ?_; clear hK K)
        refine wpAnyIn_ready (rs := [11]) (by kernel_rfl) (by simp) ?_
        refine AllReadyIn.cons rfl (fun K hK => ?_) ?_
        rotate_left
        exact AllReadyIn.nil
        go_simp
        try (refine hK _ _ ?_; clear hK K)
        refine wpAnyIn_done (by kernel_rfl) ?_ _
        gi_wp2
        exact ⟨FN.out.1, ⟨rfl, FN.out.2.1⟩, FN.out.2.2⟩
      · go_simp
        try (refine hK _ _ ?_; clear hK K)
        refine wpAnyIn_ready (rs := [0, 5]) (by kernel_rfl) (by simp) ?_
        refine AllReadyIn.cons rfl (fun K hK => ?_) ?_
        rotate_left
        refine AllReadyIn.cons rfl (fun K hK => ?_) ?_
        rotate_left
        exact AllReadyIn.nil
        · go_simp
          try (refine hK _ _ ?_; clear hK K)
          refine wpAnyIn_ready (rs := [5]) (by kernel_rfl) (by simp) ?_
          refine AllReadyIn.cons rfl (fun K hK => ?_) ?_
          rotate_left
          exact AllReadyIn.nil
          go_simp
          try (refine hK _ _ ?_; clear hK K)
          refine wpAnyIn_take (i := 6) (v := ?_) rfl rfl (by kernel_rfl) (by kernel_rfl) (by kernel_rfl) (fun _ _ _ h => h) ⟨Or.inl ⟨by rfl, ?_⟩, fun _ => rfl⟩ ?_
          rotate_left
          · (intro w; go_simp; with_reducible rfl)
          refine wpAnyIn_ready (rs := [7]) (by kernel_rfl) (by simp) ?_
          refine AllReadyIn.cons rfl (fun K hK => ?_) ?_
          rotate_left
          exact AllReadyIn.nil
          go_simp
          try (refine hK _ _ ?_; clear hK K)
          refine wpAnyIn_ready (rs := [8]) (by kernel_rfl) (by simp) ?_
          refine AllReadyIn.cons rfl (fun K hK => ?_) ?_
          rotate_left
          exact AllReadyIn.nil
          go_simp
          gi_wp2_with (refine ⟨trivial, ?_⟩; gi_at_call 38; refine (callsIn_wide.2 (pack_c _ _ _)).mono ?_; rintro e w' ⟨rfl, rfl⟩)
          try (refine hK _ _ ?_; clear hK K)
          refine wpAnyIn_ready (rs := [9]) (by kernel_rfl) (by simp) ?_
          refine AllReadyIn.cons rfl (fun K hK => ?_) ?_
          rotate_left
          exact AllReadyIn.nil
          go_simp
          try (refine hK _ _ ?_; clear hK K)
          refine wpAnyIn_ready (rs := [10]) (by kernel_rfl) (by simp) ?_
          refine AllReadyIn.cons rfl (fun K hK => ?_) ?_
          rotate_left
          exact AllReadyIn.nil
          go_simp
          try (refine hK _ _ ?_; clear hK K)
          refine wpAnyIn_ready (rs := [11]) (by kernel_rfl) (by simp) ?_
          refine AllReadyIn.cons rfl (fun K hK => ?_) ?_
          rotate_left
          exact AllReadyIn.nil
          go_simp
          try (refine hK _ _ ?_; clear hK K)
          refine wpAnyIn_done (by kernel_rfl) ?_ _
          gi_wp2
          exact ⟨FN.out.1, ⟨rfl, FN.out.2.1⟩, FN.out.2.2⟩
        · go_simp
          try (refine hK _ _ ?_; clear hK K)
          refine wpAnyIn_take (i := 6) (v := ?_) rfl rfl (by kernel_rfl) (by kernel_rfl) (by kernel_rfl) (fun _ _ _ h => h) ⟨Or.inl ⟨by rfl, ?_⟩, fun _ => rfl⟩ ?_
          rotate_left
          · (intro w; go_simp; with_reducible rfl)
          refine wpAnyIn_ready (rs := [0, 7]) (by kernel_rfl) (by simp) ?_
          refine AllReadyIn.cons rfl (fun K hK => ?_) ?_
          rotate_left
          refine AllReadyIn.cons rfl (fun K hK => ?_) ?_
          rotate_left
          exact AllReadyIn.nil
          · go_simp
            try (refine hK _ _ ?_; clear hK K)
            refine wpAnyIn_ready (rs := [7]) (by kernel_rfl) (by simp) ?_
            refine AllReadyIn.cons rfl (fun K hK => ?_) ?_
            rotate_left
            exact AllReadyIn.nil
            go_simp
            try (refine hK _ _ ?_; clear hK K)
            refine wpAnyIn_ready (rs := [8]) (by kernel_rfl) (by simp) ?_
            refine AllReadyIn.cons rfl (fun K hK => ?_) ?_
            rotate_left
            exact AllReadyIn.nil
            go_simp
            gi_wp2_with (refine ⟨trivial, ?_⟩; gi_at_call 38; refine (callsIn_wide.2 (pack_c _ _ _)).mono ?_; rintro e w' ⟨rfl, rfl⟩)
            try (refine hK _ _ ?_; clear hK K)
            refine wpAnyIn_ready (rs := [9]) (by kernel_rfl) (by simp) ?_
            refine AllReadyIn.cons rfl (fun K hK => ?_) ?_
            rotate_left
            exact AllReadyIn.nil
            go_simp
            try (refine hK _ _ ?_; clear hK K)
            refine wpAnyIn_ready (rs := [10]) (by kernel_rfl) (by simp) ?_
            refine AllReadyIn.cons rfl (fun K hK => ?_) ?_
            rotate_left
            exact AllReadyIn.nil
            go_simp
            try (refine hK _ _ ?_; clear hK K)
            refine wpAnyIn_ready (rs := [11]) (by kernel_rfl) (by simp) ?_
            refine AllReadyIn.cons rfl (fun K hK => ?_) ?_
            rotate_left
            exact AllReadyIn.nil
            go_simp
            try (refine hK _ _ ?_; clear hK K)
            refine wpAnyIn_done (by kernel_rfl) ?_ _
            gi_wp2
            exact ⟨FN.out.1, ⟨rfl, FN.out.2.1⟩, FN.out.2.2⟩
          · go_simp
            try (refine hK _ _ ?_; clear hK K)
            refine wpAnyIn_ready (rs := [0, 8]) (by kernel_rfl) (by simp) ?_
            refine AllReadyIn.cons rfl (fun K hK => ?_) ?_
            rotate_left
            refine AllReadyIn.cons rfl (fun K hK => ?_) ?_
            rotate_left
            exact AllReadyIn.nil
            · go_simp
              try (refine hK _ _ ?_; clear hK K)
              refine wpAnyIn_ready (rs := [8]) (by kernel_rfl) (by simp) ?_
              refine AllReadyIn.cons rfl (fun K hK => ?_) ?_
              rotate_left
              exact AllReadyIn.nil
              go_simp
              gi_wp2_with (refine ⟨trivial, ?_⟩; gi_at_call 38; refine (callsIn_wide.2 (pack_c _ _ _)).mono ?_; rintro e w' ⟨rfl, rfl⟩)
              try (refine hK _ _ ?_; clear hK K)
              refine wpAnyIn_ready (rs := [9]) (by kernel_rfl) (by simp) ?_
              refine AllReadyIn.cons rfl (fun K hK => ?_) ?_
              rotate_left
              exact AllReadyIn.nil
              go_simp
              try (refine hK _ _ ?_; clear hK K)
              refine wpAnyIn_ready (rs := [10]) (by kernel_rfl) (by simp) ?_
              refine AllReadyIn.cons rfl (fun K hK => ?_) ?_
              rotate_left
              exact AllReadyIn.nil
              go_simp
              try (refine hK _ _ ?_; clear hK K)
              refine wpAnyIn_ready (rs := [11]) (by kernel_rfl) (by simp) ?_
              refine AllReadyIn.cons rfl (fun K hK => ?_) ?_
              rotate_left
              exact AllReadyIn.nil
              go_simp
              try (refine hK _ _ ?_; clear hK K)
              refine wpAnyIn_done (by kernel_rfl) ?_ _
              gi_wp2
              exact ⟨FN.out.1, ⟨rfl, FN.out.2.1⟩, FN.out.2.2⟩
            · go_simp
              gi_wp2_with (refine ⟨trivial, ?_⟩; gi_at_call 38; refine (callsIn_wide.2 (pack_c _ _ _)).mono ?_; rintro e w' ⟨rfl, rfl⟩)
              try (refine hK _ _ ?_; clear hK K)
              refine wpAnyIn_ready (rs := [0]) (by kernel_rfl) (by simp) ?_
              refine AllReadyIn.cons rfl (fun K hK => ?_) ?_
              rotate_left
              exact AllReadyIn.nil
              go_simp
              try (refine hK _ _ ?_; clear hK K)
              refine wpAnyIn_ready (rs := [9]) (by kernel_rfl) (by simp) ?_
              refine AllReadyIn.cons rfl (fun K hK => ?_) ?_
              rotate_left
              exact AllReadyIn.nil
              go_simp
              try (refine hK _ _ ?_; clear hK K)
              refine wpAnyIn_ready (rs := [10]) (by kernel_rfl) (by simp) ?_
              refine AllReadyIn.cons rfl (fun K hK => ?_) ?_
              rotate_left
              exact AllReadyIn.nil
              go_simp
              try (refine hK _ _ ?_; clear hK K)
              refine wpAnyIn_ready (rs := [11]) (by kernel_rfl) (by simp) ?_
              refine AllReadyIn.cons rfl (fun K hK => ?_) ?_
              rotate_left
              exact AllReadyIn.nil
              go_simp
              try (refine hK _ _ ?_; clear hK K)
              refine wpAnyIn_done (by kernel_rfl) ?_ _
              gi_wp2
              exact ⟨FN.out.1, ⟨rfl, FN.out.2.1⟩, FN.out.2.2⟩
  case done =>
    rintro D ys W hD hys ⟨⟨rfl, q2, q3, q4, q5, q6⟩, hB⟩ hK
    have hn : frs S49.f0 xs = none := inS_none49 hys.symm
    have hf := HF.out
    rw [hn] at hf
    simp only [Prod.mk.injEq] at hf
    obtain ⟨rfl, rfl, rfl⟩ := hf
    have a20 := (blk_cell q2 0).trans rfl
    have a21 := (blk_cell q2 1).trans rfl
    have a40 := (blk_cell q4 0).trans rfl
    have a41 := (blk_cell q4 1).trans rfl
    have a50 := (blk_cell q5 0).trans rfl
    have a60 := (blk_cell q6 0).trans rfl
    have f40 := blk_frozen q4 0
    have f41 := blk_frozen q4 1
    have f50 := blk_frozen q5 0
    have f60 := blk_frozen q6 0
    have HB := Aside0.mk hB
    have Q4 := Aside0.mk q4
    have Q5 := Aside0.mk q5
    have Q6 := Aside0.mk q6
    have HK := Aside0.mk hK
    clear hB q2 q3 q4 q5 q6 hK
    gi_wp2
    have hK' := ((((KeepsOthers.setCell W ⟨w.heap.size + 1 + 1, 0, none⟩ (.slice A xs.length c)).trans (KeepsOthers.setCell _ ⟨w.heap.size + 1 + 1, 1, none⟩ (.int .i64 last))).trans (KeepsOthers.setCell _ ⟨w.heap.size + 1 + 1 + 1, 0, none⟩ (.int .i64 0))).trans (KeepsOthers.setCell _ ⟨w.heap.size + 1 + 1 + 1 + 1, 0, none⟩ (.int .i64 4))).same D _ HK.out rfl
    refine ⟨by simp, .inl ⟨_, _, rfl, run_takeDeferred hK', ?_⟩⟩
    have hr : ∀ r, some D = some r → ∃ o : Obj, ((((W.setCell ⟨w.heap.size + 1 + 1, 0, none⟩ (.slice A xs.length c)).setCell ⟨w.heap.size + 1 + 1, 1, none⟩ (.int .i64 last)).setCell ⟨w.heap.size + 1 + 1 + 1, 0, none⟩ (.int .i64 0)).setCell ⟨w.heap.size + 1 + 1 + 1 + 1, 0, none⟩ (.int .i64 4)).heap[r]? = some o ∧ o.isCells = false := fun r e => by cases e; exact ⟨_, hK', rfl⟩
    have e4 := blk_own49 ((Below.heap_setCell _ _ _ _ (by dsimp only; omega)).trans ((Below.heap_setCell _ _ _ _ (by dsimp only; omega)).trans (blk_put (cs := #[.slice A xs.length c, .int .i64 0]) (blk_put (cs := #[.slice none 0 0, .int .i64 0]) Q4.out 0 (.slice A xs.length c) rfl) 1 (.int .i64 last) rfl))) (grownBy_putObj' _ D (.deferred none)) hr
    have e5 := blk_own49 ((Below.heap_setCell _ _ _ _ (by dsimp only; omega)).trans (blk_put (cs := #[.int .i64 0]) ((Below.heap_setCell _ _ _ _ (by dsimp only; omega)).trans ((Below.heap_setCell _ _ _ _ (by dsimp only; omega)).trans Q5.out)) 0 (.int .i64 0) rfl)) (grownBy_putObj' _ D (.deferred none)) hr
    have e6 := blk_own49 (blk_put (cs := #[.int .i64 0]) ((Below.heap_setCell _ _ _ _ (by dsimp only; omega)).trans ((Below.heap_setCell _ _ _ _ (by dsimp only; omega)).trans ((Below.heap_setCell _ _ _ _ (by dsimp only; omega)).trans Q6.out))) 0 (.int .i64 4) rfl) (grownBy_putObj' _ D (.deferred none)) hr
    have hbf := ((((HB.out.setCell (p := ⟨w.heap.size + 1 + 1, 0, none⟩) (by dsimp only; omega) (.slice A xs.length c)).setCell (p := ⟨w.heap.size + 1 + 1, 1, none⟩) (by dsimp only; omega) (.int .i64 last)).setCell (p := ⟨w.heap.size + 1 + 1 + 1, 0, none⟩) (by dsimp only; omega) (.int .i64 0)).setCell (p := ⟨w.heap.size + 1 + 1 + 1 + 1, 0, none⟩) (by dsimp only; omega) (.int .i64 4)).trans (belowK_b (w := w) (Nat.le_refl _) _ D _ (.deferred none) (by rw [HS.out] at hD; omega) hK' rfl rfl)
    exact ⟨_, results_take49 _ _ _ _ _ _ _ _ _ rfl rfl rfl e4 e5 e6, _, rfl, Kd.V_mono (Kd.V_below HV.out hbf) (fun k hk => .inl hk), hbf⟩
  case stop =>
    rintro D c' pre W hD hpre ⟨⟨rfl, x, v0, rfl, q4, q5, q6, hR⟩, hB⟩ hK
    obtain ⟨i, hxi, hil, hfr⟩ := inS_first49 hpre
    have hxv : x.val = i := Int.ofNat.inj hxi
    subst hxv
    have hf := HF.out
    rw [hfr] at hf
    simp only [Prod.mk.injEq] at hf
    obtain ⟨e1, e2, e3⟩ := hf
    have E1 := Aside0.mk e1
    have E2 := Aside0.mk e2
    have E3 := Aside0.mk e3
    clear e1 e2 e3
    have HB := Aside0.mk hB
    have HRR := Aside0.mk hR
    have Q4 := Aside0.mk q4
    have Q5 := Aside0.mk q5
    have Q6 := Aside0.mk q6
    have HK := Aside0.mk hK
    clear hB q4 q5 q6 hK hR
    gi_wp2
    refine ⟨by simp, .inl ⟨_, _, rfl, run_takeDeferred HK.out, ?_⟩⟩
    have hr : ∀ r, some D = some r → ∃ o : Obj, W.heap[r]? = some o ∧ o.isCells = false := fun r e => by cases e; exact ⟨_, HK.out, rfl⟩
    have e4 := blk_own49 Q4.out (grownBy_putObj' _ D (.deferred none)) hr
    have e5 := blk_own49 Q5.out (grownBy_putObj' _ D (.deferred none)) hr
    have e6 := blk_own49 Q6.out (grownBy_putObj' _ D (.deferred none)) hr
    exact ⟨_, results_take49 _ _ _ _ _ _ _ _ _ rfl rfl rfl e4 e5 e6, _, by rw [← E2.out, ← E3.out], by rw [← E1.out]; exact Kd.R_V (Kd.R_mono (R_own49 HRR.out (grownBy_putObj' _ D (.deferred none)) hr) (fun k hk => .inr hk)), HB.out.trans (belowK_b (w := w) (Nat.le_refl _) W D _ _ (by rw [HS.out] at hD; omega) HK.out rfl rfl)⟩

/-- The cell at i has that handle. -/
def hit49 (l : List S49) (h : Int) (i : Nat) : Bool := pk (i : Int) (l.getD i z49).f1 == h
theorem fd_filter49 (l : List S49) (s h : Int) : fdIn S49.f0 S49.f1 l s h = ((List.range l.length).filter (isS S49.f0 l s)).find? (hit49 l h) := by
  unfold fdIn
  rw [List.find?_filter]
  congr 1
  funext i
  unfold isS hit49
  cases hi : l[i]? with
  | none => simp
  | some c =>
    have : l.getD i z49 = c := by rw [List.getD_eq_getElem?_getD, hi]; rfl
    rw [this]
    rw [Bool.eq_iff_iff]
    simp
theorem fvs_val49 {m : Nat} (ys : List (Fin m)) (L : List Nat) (h : fvs ys = L.map fun i : Nat => (i : Int)) : ys.map (·.val) = L := by
  have h2 : (ys.map (·.val)).map (fun i : Nat => (i : Int)) = L.map fun i : Nat => (i : Int) := by rw [← h, List.map_map]; rfl
  exact (List.map_inj_right (fun a b e => Int.ofNat.inj e)).1 h2
theorem fd_none49 {l : List S49} {s h : Int} {ys : List (Fin l.length)} (hy : fvs ys = inS S49.f0 l s) (hn : ∀ j ∈ ys, hit49 l h j.val = false) : fdIn S49.f0 S49.f1 l s h = none := by
  rw [fd_filter49, ← fvs_val49 ys _ hy, List.find?_eq_none]
  intro i hi
  obtain ⟨j, hj, rfl⟩ := List.mem_map.1 hi
  rw [hn j hj]
  decide
theorem fd_some49 {l : List S49} {s h : Int} {p : List (Fin l.length)} {x : Fin l.length} (hy : fvs (p ++ [x]) <+: inS S49.f0 l s) (hn : ∀ j ∈ p, hit49 l h j.val = false) (hx : hit49 l h x.val = true) : fdIn S49.f0 S49.f1 l s h = some x.val := by
  rw [fd_filter49]
  have h1 := List.prefix_iff_eq_take.1 hy
  unfold inS at h1
  rw [← List.map_take] at h1
  have h2 := fvs_val49 _ _ h1
  rw [← List.take_append_drop (fvs (p ++ [x])).length ((List.range l.length).filter (isS S49.f0 l s)), ← h2, List.map_append, List.find?_append, List.find?_append]
  have h3 : (p.map (·.val)).find? (hit49 l h) = none := by
    rw [List.find?_eq_none]
    intro i hi
    obtain ⟨j, hj, rfl⟩ := List.mem_map.1 hi
    rw [hn j hj]
    decide
  rw [h3]
  simp [hx]
theorem fnd_a49 {l : List S49} {h : Int} (hz : h ≠ 0) {i : Nat} (h1 : fdIn S49.f0 S49.f1 l 1 h = some i) : fnd S49.f0 S49.f1 l h = ((i : Int), 0) := by unfold fnd; rw [if_neg hz, h1]
theorem fnd_b49 {l : List S49} {h : Int} (hz : h ≠ 0) {i : Nat} (h1 : fdIn S49.f0 S49.f1 l 1 h = none) (h2 : fdIn S49.f0 S49.f1 l 2 h = some i) : fnd S49.f0 S49.f1 l h = ((i : Int), 0) := by unfold fnd; rw [if_neg hz, h1, h2]
theorem fnd_c49 {l : List S49} {h : Int} (hz : h ≠ 0) (h1 : fdIn S49.f0 S49.f1 l 1 h = none) (h2 : fdIn S49.f0 S49.f1 l 2 h = none) : fnd S49.f0 S49.f1 l h = (-1, 3) := by unfold fnd; rw [if_neg hz, h1, h2]

theorem results_find49 (tmps : Array Value) (w : World) (g4 g5 : Nat) (u u' : Value) (h4 : tmps.getD 4 undef = .pointer (some ⟨g4, 0, none⟩)) (h5 : tmps.getD 5 undef = .pointer (some ⟨g5, 0, none⟩))
    (b4 : w.heap[g4]? = some (.cells #[u] 3 (0, 0))) (b5 : w.heap[g5]? = some (.cells #[u'] 34 (0, 0))) : (results Try.f21 tmps).run Try.prog w = .ok (.tuple #[u, u']) w := by
  have h4' : tmps[4]?.getD undef = .pointer (some ⟨g4, 0, none⟩) := by simpa using h4
  have h5' : tmps[5]?.getD undef = .pointer (some ⟨g5, 0, none⟩) := by simpa using h5
  have c4 : w.cell? ⟨g4, 0, none⟩ = some u := (blk_cell b4 0).trans rfl
  have c5 : w.cell? ⟨g5, 0, none⟩ = some u' := (blk_cell b5 0).trans rfl
  simp [results, Try.f21, h4', h5', asAddr, go_sem, c4, c5]
theorem idx82_049 (w : World) (x0 x1 : Int) : (Instr.index 82 (.agg #[.int .i64 x0, .int .i64 x1]) (.int .i64 0)).run Try.prog w = .ok (.int .i64 x0) w := by kernel_rfl
theorem idx82_149 (w : World) (x0 x1 : Int) : (Instr.index 82 (.agg #[.int .i64 x0, .int .i64 x1]) (.int .i64 1)).run Try.prog w = .ok (.int .i64 x1) w := by kernel_rfl
attribute [local go_sem] idx82_049 idx82_149
set_option maxRecDepth 100000 in
set_option maxHeartbeats 4000000 in
theorem findw49 (A : Option Addr) (c : Nat) (xs : List S49) (last h : Int) (hbig : xs.length ≤ 1000000) (w : World) (hC : Kd.C k49 w A xs.length xs) :
    Calls Try.prog 21 #[.agg #[.slice A xs.length c, .int .i64 last], .int .i64 h] w fun e w' => e = .returned (.tuple #[.int .i64 (fnd S49.f0 S49.f1 xs h).1, .int .i64 (fnd S49.f0 S49.f1 xs h).2]) ∧ Below w.heap.size w w' := by
  have HC := Aside0.mk hC
  clear hC
  by_cases hz : h = 0
  · subst hz
    go_enter Try.func21, Try.ntmps21
    go_wp2
    refine bodyPost_ret (v := .tuple #[.int .i64 (-1), .int .i64 2]) (by simp [results, Try.f21, go_sem]) rfl ?_
    exact ⟨rfl, (((((Below.refl _ w).alloc (Nat.le_refl _) _).alloc (by simp) _).alloc (by simp; omega) _).alloc (by simp; omega) _)⟩
  · have hzb : decide (h = 0) = false := decide_eq_false hz
    have hzc : (h == 0) = false := by simpa using hz
    refine (callsIn_wide (n := 5)).1 ?_
    refine callsIn_of_wp_marks Try.func21 rfl trivial ?_ rfl
    simp only [Try.ntmps21, List.size_toArray, List.length_cons, List.length_nil, Nat.reduceAdd, Nat.reduceSub, Array.replicate_succ, Array.replicate_zero, List.push_toArray, List.append_toArray, List.nil_append, List.cons_append]
    gi_wp2
    refine wpIn_loop_rounds 3 ?_
    rw [roundsIn_succ]
    gi_wp2_with (refine ⟨trivial, ?_⟩; gi_at_call 35; refine (callsIn_wide.2 (in49_c _ _ _ _ _ _)).mono ?_; rintro e w' ⟨rfl, rfl⟩)
    obtain ⟨V1, hV1⟩ : ∃ V1, (((w.alloc (.cells #[.slice A xs.length c, .int .i64 last] 24)).alloc (.cells #[.int .i64 h] 3)).alloc (.cells #[.int .i64 0] 3)).alloc (.cells #[.int .i64 0] 34) = V1 := ⟨_, rfl⟩
    have hB1 : Below w.heap.size w V1 := by rw [← hV1]; exact ((((Below.refl _ w).alloc (Nat.le_refl _) _).alloc (by simp) _).alloc (by simp; omega) _).alloc (by simp; omega) _
    have hz1 : V1.heap.size = w.heap.size + 1 + 1 + 1 + 1 := by rw [← hV1]; simp
    have B2_1 := Aside0.mk (show V1.heap[w.heap.size]? = some (.cells #[.slice A xs.length c, .int .i64 last] 24 (0, 0)) by rw [← hV1]; exact blk_alloc (blk_alloc (blk_alloc (blk_new w _) _) _) _)
    have B3_1 := Aside0.mk (show V1.heap[w.heap.size + 1]? = some (.cells #[.int .i64 h] 3 (0, 0)) by rw [← hV1]; refine blk_alloc (blk_alloc ?_ _) _; have h := blk_new (w.alloc (.cells #[.slice A xs.length c, .int .i64 last] 24)) (.cells #[.int .i64 h] 3); rw [World.size_alloc] at h; exact h)
    have B4_1 := Aside0.mk (show V1.heap[w.heap.size + 1 + 1]? = some (.cells #[.int .i64 0] 3 (0, 0)) by rw [← hV1]; refine blk_alloc ?_ _; have h := blk_new ((w.alloc (.cells #[.slice A xs.length c, .int .i64 last] 24)).alloc (.cells #[.int .i64 h] 3)) (.cells #[.int .i64 0] 3); rw [World.size_alloc, World.size_alloc] at h; exact h)
    have B5_1 := Aside0.mk (show V1.heap[w.heap.size + 1 + 1 + 1]? = some (.cells #[.int .i64 0] 34 (0, 0)) by rw [← hV1]; have h := blk_new (((w.alloc (.cells #[.slice A xs.length c, .int .i64 last] 24)).alloc (.cells #[.int .i64 h] 3)).alloc (.cells #[.int .i64 0] 3)) (.cells #[.int .i64 0] 34); rw [World.size_alloc, World.size_alloc, World.size_alloc] at h; exact h)
    rw [hV1, ← hz1]
    have HZ1 := Aside0.mk hz1
    clear hV1 hz1
    have HB1 := Aside0.mk hB1
    have hBQ1 : Below w.heap.size w (qbox49 V1 A xs.length c last 1) := HB1.out.trans (qbox49_below _ _ _ _ _ _ HB1.out.size)
    have HBQ1 := Aside0.mk hBQ1
    have HQ1 := qbox49_cells V1 A xs.length c last 1
    have HS1 := Aside0.mk (qbox49_size V1 A xs.length c last 1)
    refine wpIn_rangeFunc_ownG rfl (by omega) (gf := 54) (lb := #[.pointer (some ⟨V1.heap.size, 0, none⟩), .pointer (some ⟨V1.heap.size + 1, 0, none⟩)]) rfl trivial (enters_of Try.func54 (by kernel_rfl) rfl)
      (in49_stops Fence.wide 4 trivial rfl (by omega) V1.heap.size (V1.heap.size + 1) w.heap.size A c xs 1 hbig _ (by rw [HS1.out]; omega) (by rw [HS1.out]; omega) (by rw [HS1.out]; have := HB1.out.size; omega) HQ1.1 HQ1.2.2 (fun W' hb => Kd.C_below HC.out (HBQ1.out.trans hb))) KpB.trans (kpB_b (by rw [HS1.out]; have := HB1.out.size; omega) (by rw [HS1.out]; omega)) (Below.refl _ _) (fun _ => rfl)
      (fun pre W => ((∀ j ∈ pre, hit49 xs h j.val = false) ∧ W.heap[w.heap.size]? = some (.cells #[.slice A xs.length c, .int .i64 last] 24 (0, 0)) ∧ W.heap[w.heap.size + 1]? = some (.cells #[.int .i64 h] 3 (0, 0)) ∧ W.heap[w.heap.size + 1 + 1]? = some (.cells #[.int .i64 0] 3 (0, 0)) ∧ W.heap[w.heap.size + 1 + 1 + 1]? = some (.cells #[.int .i64 0] 34 (0, 0))) ∧ (Below w.heap.size w W ∧ True))
      (fun c' pre W => (c' = .ret ∧ ∃ (p : List (Fin xs.length)) (x : Fin xs.length), pre = p ++ [x] ∧ (∀ j ∈ p, hit49 xs h j.val = false) ∧ hit49 xs h x.val = true ∧ W.heap[w.heap.size + 1 + 1]? = some (.cells #[.int .i64 (x.val : Int)] 3 (0, 0)) ∧ W.heap[w.heap.size + 1 + 1 + 1]? = some (.cells #[.int .i64 0] 34 (0, 0))) ∧ (Below w.heap.size w W ∧ True))
      (OwnFrom.and (Own.from (fun s A B row hs hg hr => ⟨hs.1, blk_own49 hs.2.1 hg hr, blk_own49 hs.2.2.1 hg hr, blk_own49 hs.2.2.2.1 hg hr, blk_own49 hs.2.2.2.2 hg hr⟩) _) (OwnFrom.and (ownFrom_below (Nat.le_refl _) (by rw [HS1.out]; have := HB1.out.size; omega)) (fun _ _ _ _ h _ _ => h)))
      (fun c => OwnFrom.and (Own.from (fun s A B row hs hg hr => by obtain ⟨h1, p, x, h2, h3, h4, h5, h6⟩ := hs; exact ⟨h1, p, x, h2, h3, h4, blk_own49 h5 hg hr, blk_own49 h6 hg hr⟩) _) (OwnFrom.and (ownFrom_below (Nat.le_refl _) (by rw [HS1.out]; have := HB1.out.size; omega)) (fun _ _ _ _ h _ _ => h)))
      ⟨⟨fun j hj => by simp at hj, blk_alloc (blk_alloc B2_1.out _) _, blk_alloc (blk_alloc B3_1.out _) _, blk_alloc (blk_alloc B4_1.out _) _, blk_alloc (blk_alloc B5_1.out _) _⟩, HBQ1.out, trivial⟩
      (fun x => { tmps := #[.agg #[.slice A xs.length c, .int .i64 last], .int .i64 h, .pointer (some ⟨w.heap.size, 0, none⟩), .pointer (some ⟨w.heap.size + 1, 0, none⟩), .pointer (some ⟨w.heap.size + 1 + 1, 0, none⟩), .pointer (some ⟨w.heap.size + 1 + 1 + 1, 0, none⟩), undef, .int .i64 1, .int .i64 (x.val : Int), .int .i64 h, .bool false, .agg #[.int .i64 1, .int .i64 2], .int .i64 0, .bool true, .int .i64 1, .agg #[.slice A xs.length c, .int .i64 last], .int .i64 1, .func (.func 54) #[] #[.pointer (some ⟨V1.heap.size, 0, none⟩), .pointer (some ⟨V1.heap.size + 1, 0, none⟩)], .int .i64 (x.val : Int), undef, undef, undef, undef, undef, undef, undef, undef, undef, undef, undef, undef], defers := [] }) ?assign ?body ?done ?stop
    case assign =>
      intro l x W K hK
      gi_wp2
      exact hK
    case body =>
      rintro l pre x W ⟨⟨hno, q2, q3, q4, q5⟩, hB, hX⟩ _
      have hCW := Kd.C_below HC.out hB
      obtain ⟨ad, eA, hcx, hcy, hcz⟩ := at_T49 hCW (x.val : Int) (by omega) (by have := x.isLt; omega)
      cases eA
      rw [Int.toNat_natCast] at hcx hcy hcz
      have hxl := x.isLt
      obtain ⟨y0, hy0⟩ : ∃ y0 : S49, y0 = xs.getD x.val z49 := ⟨_, rfl⟩
      have hxv : rd_T49 xs (x.val : Int) = y0 := by unfold rd_T49; rw [Int.toNat_natCast, hy0]
      rw [hxv] at hcx hcy hcz
      have a20 := (blk_cell q2 0).trans rfl
      have a30 := (blk_cell q3 0).trans rfl
      have a40 := (blk_cell q4 0).trans rfl
      have a50 := (blk_cell q5 0).trans rfl
      have f40 := blk_frozen q4 0
      have f50 := blk_frozen q5 0
      have HH : ∀ b, (pk (x.val : Int) y0.f1 == h) = b → hit49 xs h x.val = b := fun b e => by unfold hit49; rw [← hy0]; exact e
      have HHA := Aside0.mk HH
      have Q2 := Aside0.mk q2
      have Q3 := Aside0.mk q3
      have Q4 := Aside0.mk q4
      have Q5 := Aside0.mk q5
      have HBW := Aside0.mk hB
      have HNO := Aside0.mk hno
      have hmx : Try.prog.follows .mixedOrders = true := by kernel_rfl
      have hdd : 1 ≤ 5 - 1 - 1 := by omega
      clear HH q2 q3 q4 q5 hB hno hCW hy0 hxv hcx hcz HQ1
      cases hh : (pk (x.val : Int) y0.f1 == h) with
      | true =>
        gi_wp2
        refine region_round rfl l (by kernel_rfl) hmx ?_
        simp only [List.size_toArray, List.length_cons, List.length_nil, Nat.reduceAdd, Array.replicate_succ, Array.replicate_zero, List.push_toArray, List.append_toArray, List.nil_append, List.cons_append]
        refine wpAnyIn_take (i := 0) (v := ?_) rfl rfl (by kernel_rfl) (by kernel_rfl) (by kernel_rfl) (fun _ _ _ h => h) ⟨Or.inl ⟨by rfl, ?_⟩, fun _ => rfl⟩ ?_
        rotate_left
        · (intro w; go_simp; with_reducible rfl)
        refine wpAnyIn_take (i := 1) (v := ?_) rfl rfl (by kernel_rfl) (by kernel_rfl) (by kernel_rfl) (fun _ _ _ h => h) ⟨Or.inl ⟨by rfl, ?_⟩, fun _ => rfl⟩ ?_
        rotate_left
        · (intro w; go_simp; with_reducible rfl)
        refine wpAnyIn_take (i := 3) (v := ?_) rfl rfl (by kernel_rfl) (by kernel_rfl) (by kernel_rfl) (fun _ _ _ h => h) ⟨Or.inl ⟨by rfl, ?_⟩, fun _ => rfl⟩ ?_
        rotate_left
        · (intro w; go_simp; with_reducible rfl)
        refine wpAnyIn_ready (rs := [2, 8]) (by kernel_rfl) (by simp) ?_
        refine AllReadyIn.cons rfl (fun K hK => ?_) ?_
        rotate_left
        refine AllReadyIn.cons rfl (fun K hK => ?_) ?_
        rotate_left
        exact AllReadyIn.nil
        · go_simp
          try (refine hK _ _ ?_; clear hK K)
          refine wpAnyIn_ready (rs := [4, 8]) (by kernel_rfl) (by simp) ?_
          refine AllReadyIn.cons rfl (fun K hK => ?_) ?_
          rotate_left
          refine AllReadyIn.cons rfl (fun K hK => ?_) ?_
          rotate_left
          exact AllReadyIn.nil
          · go_simp
            try (refine hK _ _ ?_; clear hK K)
            refine wpAnyIn_take (i := 5) (v := ?_) rfl rfl (by kernel_rfl) (by kernel_rfl) (by kernel_rfl) (fun _ _ _ h => h) ⟨Or.inl ⟨by rfl, ?_⟩, fun _ => rfl⟩ ?_
            rotate_left
            · (intro w; go_simp; with_reducible rfl)
            refine wpAnyIn_ready (rs := [6, 8]) (by kernel_rfl) (by simp) ?_
            refine AllReadyIn.cons rfl (fun K hK => ?_) ?_
            rotate_left
            refine AllReadyIn.cons rfl (fun K hK => ?_) ?_
            rotate_left
            exact AllReadyIn.nil
            · go_simp
              try (refine hK _ _ ?_; clear hK K)
              refine wpAnyIn_ready (rs := [7, 8]) (by kernel_rfl) (by simp) ?_
              refine AllReadyIn.cons rfl (fun K hK => ?_) ?_
              rotate_left
              refine AllReadyIn.cons rfl (fun K hK => ?_) ?_
              rotate_left
              exact AllReadyIn.nil
              · go_simp
                gi_wp2_with (refine ⟨trivial, ?_⟩; gi_at_call 38; refine (callsIn_wide.2 (pack_c _ _ _)).mono ?_; rintro e w' ⟨rfl, rfl⟩)
                try (refine hK _ _ ?_; clear hK K)
                refine wpAnyIn_ready (rs := [8]) (by kernel_rfl) (by simp) ?_
                refine AllReadyIn.cons rfl (fun K hK => ?_) ?_
                rotate_left
                exact AllReadyIn.nil
                go_simp
                try (refine hK _ _ ?_; clear hK K)
                refine wpAnyIn_ready (rs := [9]) (by kernel_rfl) (by simp) ?_
                refine AllReadyIn.cons rfl (fun K hK => ?_) ?_
                rotate_left
                exact AllReadyIn.nil
                go_simp
                try (refine hK _ _ ?_; clear hK K)
                refine wpAnyIn_done (by kernel_rfl) ?_ _
                gi_wp2
                exact ⟨(((KeepsOthers.setCell _ _ _).trans (KeepsOthers.setCell _ _ _)).trans (KeepsOthers.drew _)).from _, ⟨rfl, pre, x, rfl, HNO.out, HHA.out _ hh, blk_drew ((Below.heap_setCell _ _ _ _ (by dsimp only; omega)).trans (blk_put (cs := #[.int .i64 0]) Q4.out 0 _ rfl)), blk_drew (blk_put (cs := #[.int .i64 0]) ((Below.heap_setCell _ _ _ _ (by dsimp only; omega)).trans Q5.out) 0 _ rfl)⟩, below_drew ((HBW.out.setCell (p := ⟨w.heap.size + 1 + 1, 0, none⟩) (by dsimp only; omega) _).setCell (p := ⟨w.heap.size + 1 + 1 + 1, 0, none⟩) (by dsimp only; omega) _), trivial⟩
              · go_simp
                try (refine hK _ _ ?_; clear hK K)
                refine wpAnyIn_ready (rs := [7]) (by kernel_rfl) (by simp) ?_
                refine AllReadyIn.cons rfl (fun K hK => ?_) ?_
                rotate_left
                exact AllReadyIn.nil
                go_simp
                gi_wp2_with (refine ⟨trivial, ?_⟩; gi_at_call 38; refine (callsIn_wide.2 (pack_c _ _ _)).mono ?_; rintro e w' ⟨rfl, rfl⟩)
                try (refine hK _ _ ?_; clear hK K)
                refine wpAnyIn_ready (rs := [9]) (by kernel_rfl) (by simp) ?_
                refine AllReadyIn.cons rfl (fun K hK => ?_) ?_
                rotate_left
                exact AllReadyIn.nil
                go_simp
                try (refine hK _ _ ?_; clear hK K)
                refine wpAnyIn_done (by kernel_rfl) ?_ _
                gi_wp2
                exact ⟨(((KeepsOthers.setCell _ _ _).trans (KeepsOthers.setCell _ _ _)).trans (KeepsOthers.drew _)).from _, ⟨rfl, pre, x, rfl, HNO.out, HHA.out _ hh, blk_drew ((Below.heap_setCell _ _ _ _ (by dsimp only; omega)).trans (blk_put (cs := #[.int .i64 0]) Q4.out 0 _ rfl)), blk_drew (blk_put (cs := #[.int .i64 0]) ((Below.heap_setCell _ _ _ _ (by dsimp only; omega)).trans Q5.out) 0 _ rfl)⟩, below_drew ((HBW.out.setCell (p := ⟨w.heap.size + 1 + 1, 0, none⟩) (by dsimp only; omega) _).setCell (p := ⟨w.heap.size + 1 + 1 + 1, 0, none⟩) (by dsimp only; omega) _), trivial⟩
            · go_simp
              try (refine hK _ _ ?_; clear hK K)
              refine wpAnyIn_ready (rs := [6]) (by kernel_rfl) (by simp) ?_
              refine AllReadyIn.cons rfl (fun K hK => ?_) ?_
              rotate_left
              exact AllReadyIn.nil
              go_simp
              try (refine hK _ _ ?_; clear hK K)
              refine wpAnyIn_ready (rs := [7]) (by kernel_rfl) (by simp) ?_
              refine AllReadyIn.cons rfl (fun K hK => ?_) ?_
              rotate_left
              exact AllReadyIn.nil
              go_simp
              gi_wp2_with (refine ⟨trivial, ?_⟩; gi_at_call 38; refine (callsIn_wide.2 (pack_c _ _ _)).mono ?_; rintro e w' ⟨rfl, rfl⟩)
              try (refine hK _ _ ?_; clear hK K)
              refine wpAnyIn_ready (rs := [9]) (by kernel_rfl) (by simp) ?_
              refine AllReadyIn.cons rfl (fun K hK => ?_) ?_
              rotate_left
              exact AllReadyIn.nil
              go_simp
              try (refine hK _ _ ?_; clear hK K)
              refine wpAnyIn_done (by kernel_rfl) ?_ _
              gi_wp2
              exact ⟨(((KeepsOthers.setCell _ _ _).trans (KeepsOthers.setCell _ _ _)).trans (KeepsOthers.drew _)).from _, ⟨rfl, pre, x, rfl, HNO.out, HHA.out _ hh, blk_drew ((Below.heap_setCell _ _ _ _ (by dsimp only; omega)).trans (blk_put (cs := #[.int .i64 0]) Q4.out 0 _ rfl)), blk_drew (blk_put (cs := #[.int .i64 0]) ((Below.heap_setCell _ _ _ _ (by dsimp only; omega)).trans Q5.out) 0 _ rfl)⟩, below_drew ((HBW.out.setCell (p := ⟨w.heap.size + 1 + 1, 0, none⟩) (by dsimp only; omega) _).setCell (p := ⟨w.heap.size + 1 + 1 + 1, 0, none⟩) (by dsimp only; omega) _), trivial⟩
          · go_simp
            try (refine hK _ _ ?_; clear hK K)
            refine wpAnyIn_ready (rs := [4]) (by kernel_rfl) (by simp) ?_
            refine AllReadyIn.cons rfl (fun K hK => ?_) ?_
            rotate_left
            exact AllReadyIn.nil
            go_simp
            try (refine hK _ _ ?_; clear hK K)
            refine wpAnyIn_take (i := 5) (v := ?_) rfl rfl (by kernel_rfl) (by kernel_rfl) (by kernel_rfl) (fun _ _ _ h => h) ⟨Or.inl ⟨by rfl, ?_⟩, fun _ => rfl⟩ ?_
            rotate_left
            · (intro w; go_simp; with_reducible rfl)
            refine wpAnyIn_ready (rs := [6]) (by kernel_rfl) (by simp) ?_
            refine AllReadyIn.cons rfl (fun K hK => ?_) ?_
            rotate_left
            exact AllReadyIn.nil
            go_simp
            try (refine hK _ _ ?_; clear hK K)
            refine wpAnyIn_ready (rs := [7]) (by kernel_rfl) (by simp) ?_
            refine AllReadyIn.cons rfl (fun K hK => ?_) ?_
            rotate_left
            exact AllReadyIn.nil
            go_simp
            gi_wp2_with (refine ⟨trivial, ?_⟩; gi_at_call 38; refine (callsIn_wide.2 (pack_c _ _ _)).mono ?_; rintro e w' ⟨rfl, rfl⟩)
            try (refine hK _ _ ?_; clear hK K)
            refine wpAnyIn_ready (rs := [9]) (by kernel_rfl) (by simp) ?_
            refine AllReadyIn.cons rfl (fun K hK => ?_) ?_
            rotate_left
            exact AllReadyIn.nil
            go_simp
            try (refine hK _ _ ?_; clear hK K)
            refine wpAnyIn_done (by kernel_rfl) ?_ _
            gi_wp2
            exact ⟨(((KeepsOthers.setCell _ _ _).trans (KeepsOthers.setCell _ _ _)).trans (KeepsOthers.drew _)).from _, ⟨rfl, pre, x, rfl, HNO.out, HHA.out _ hh, blk_drew ((Below.heap_setCell _ _ _ _ (by dsimp only; omega)).trans (blk_put (cs := #[.int .i64 0]) Q4.out 0 _ rfl)), blk_drew (blk_put (cs := #[.int .i64 0]) ((Below.heap_setCell _ _ _ _ (by dsimp only; omega)).trans Q5.out) 0 _ rfl)⟩, below_drew ((HBW.out.setCell (p := ⟨w.heap.size + 1 + 1, 0, none⟩) (by dsimp only; omega) _).setCell (p := ⟨w.heap.size + 1 + 1 + 1, 0, none⟩) (by dsimp only; omega) _), trivial⟩
        · go_simp
          try (refine hK _ _ ?_; clear hK K)
          refine wpAnyIn_ready (rs := [2]) (by kernel_rfl) (by simp) ?_
          refine AllReadyIn.cons rfl (fun K hK => ?_) ?_
          rotate_left
          exact AllReadyIn.nil
          go_simp
          try (refine hK _ _ ?_; clear hK K)
          refine wpAnyIn_ready (rs := [4]) (by kernel_rfl) (by simp) ?_
          refine AllReadyIn.cons rfl (fun K hK => ?_) ?_
          rotate_left
          exact AllReadyIn.nil
          go_simp
          try (refine hK _ _ ?_; clear hK K)
          refine wpAnyIn_take (i := 5) (v := ?_) rfl rfl (by kernel_rfl) (by kernel_rfl) (by kernel_rfl) (fun _ _ _ h => h) ⟨Or.inl ⟨by rfl, ?_⟩, fun _ => rfl⟩ ?_
          rotate_left
          · (intro w; go_simp; with_reducible rfl)
          refine wpAnyIn_ready (rs := [6]) (by kernel_rfl) (by simp) ?_
          refine AllReadyIn.cons rfl (fun K hK => ?_) ?_
          rotate_left
          exact AllReadyIn.nil
          go_simp
          try (refine hK _ _ ?_; clear hK K)
          refine wpAnyIn_ready (rs := [7]) (by kernel_rfl) (by simp) ?_
          refine AllReadyIn.cons rfl (fun K hK => ?_) ?_
          rotate_left
          exact AllReadyIn.nil
          go_simp
          gi_wp2_with (refine ⟨trivial, ?_⟩; gi_at_call 38; refine (callsIn_wide.2 (pack_c _ _ _)).mono ?_; rintro e w' ⟨rfl, rfl⟩)
          try (refine hK _ _ ?_; clear hK K)
          refine wpAnyIn_ready (rs := [9]) (by kernel_rfl) (by simp) ?_
          refine AllReadyIn.cons rfl (fun K hK => ?_) ?_
          rotate_left
          exact AllReadyIn.nil
          go_simp
          try (refine hK _ _ ?_; clear hK K)
          refine wpAnyIn_done (by kernel_rfl) ?_ _
          gi_wp2
          exact ⟨(((KeepsOthers.setCell _ _ _).trans (KeepsOthers.setCell _ _ _)).trans (KeepsOthers.drew _)).from _, ⟨rfl, pre, x, rfl, HNO.out, HHA.out _ hh, blk_drew ((Below.heap_setCell _ _ _ _ (by dsimp only; omega)).trans (blk_put (cs := #[.int .i64 0]) Q4.out 0 _ rfl)), blk_drew (blk_put (cs := #[.int .i64 0]) ((Below.heap_setCell _ _ _ _ (by dsimp only; omega)).trans Q5.out) 0 _ rfl)⟩, below_drew ((HBW.out.setCell (p := ⟨w.heap.size + 1 + 1, 0, none⟩) (by dsimp only; omega) _).setCell (p := ⟨w.heap.size + 1 + 1 + 1, 0, none⟩) (by dsimp only; omega) _), trivial⟩
      | false =>
        gi_wp2
        refine region_round rfl l (by kernel_rfl) hmx ?_
        simp only [List.size_toArray, List.length_cons, List.length_nil, Nat.reduceAdd, Array.replicate_succ, Array.replicate_zero, List.push_toArray, List.append_toArray, List.nil_append, List.cons_append]
        refine wpAnyIn_take (i := 0) (v := ?_) rfl rfl (by kernel_rfl) (by kernel_rfl) (by kernel_rfl) (fun _ _ _ h => h) ⟨Or.inl ⟨by rfl, ?_⟩, fun _ => rfl⟩ ?_
        rotate_left
        · (intro w; go_simp; with_reducible rfl)
        refine wpAnyIn_take (i := 1) (v := ?_) rfl rfl (by kernel_rfl) (by kernel_rfl) (by kernel_rfl) (fun _ _ _ h => h) ⟨Or.inl ⟨by rfl, ?_⟩, fun _ => rfl⟩ ?_
        rotate_left
        · (intro w; go_simp; with_reducible rfl)
        refine wpAnyIn_take (i := 3) (v := ?_) rfl rfl (by kernel_rfl) (by kernel_rfl) (by kernel_rfl) (fun _ _ _ h => h) ⟨Or.inl ⟨by rfl, ?_⟩, fun _ => rfl⟩ ?_
        rotate_left
        · (intro w; go_simp; with_reducible rfl)
        refine wpAnyIn_ready (rs := [2, 8]) (by kernel_rfl) (by simp) ?_
        refine AllReadyIn.cons rfl (fun K hK => ?_) ?_
        rotate_left
        refine AllReadyIn.cons rfl (fun K hK => ?_) ?_
        rotate_left
        exact AllReadyIn.nil
        · go_simp
          try (refine hK _ _ ?_; clear hK K)
          refine wpAnyIn_ready (rs := [4, 8]) (by kernel_rfl) (by simp) ?_
          refine AllReadyIn.cons rfl (fun K hK => ?_) ?_
          rotate_left
          refine AllReadyIn.cons rfl (fun K hK => ?_) ?_
          rotate_left
          exact AllReadyIn.nil
          · go_simp
            try (refine hK _ _ ?_; clear hK K)
            refine wpAnyIn_take (i := 5) (v := ?_) rfl rfl (by kernel_rfl) (by kernel_rfl) (by kernel_rfl) (fun _ _ _ h => h) ⟨Or.inl ⟨by rfl, ?_⟩, fun _ => rfl⟩ ?_
            rotate_left
            · (intro w; go_simp; with_reducible rfl)
            refine wpAnyIn_ready (rs := [6, 8]) (by kernel_rfl) (by simp) ?_
            refine AllReadyIn.cons rfl (fun K hK => ?_) ?_
            rotate_left
            refine AllReadyIn.cons rfl (fun K hK => ?_) ?_
            rotate_left
            exact AllReadyIn.nil
            · go_simp
              try (refine hK _ _ ?_; clear hK K)
              refine wpAnyIn_ready (rs := [7, 8]) (by kernel_rfl) (by simp) ?_
              refine AllReadyIn.cons rfl (fun K hK => ?_) ?_
              rotate_left
              refine AllReadyIn.cons rfl (fun K hK => ?_) ?_
              rotate_left
              exact AllReadyIn.nil
              · go_simp
                gi_wp2_with (refine ⟨trivial, ?_⟩; gi_at_call 38; refine (callsIn_wide.2 (pack_c _ _ _)).mono ?_; rintro e w' ⟨rfl, rfl⟩)
                try (refine hK _ _ ?_; clear hK K)
                refine wpAnyIn_ready (rs := [8]) (by kernel_rfl) (by simp) ?_
                refine AllReadyIn.cons rfl (fun K hK => ?_) ?_
                rotate_left
                exact AllReadyIn.nil
                go_simp
                try (refine hK _ _ ?_; clear hK K)
                refine wpAnyIn_ready (rs := [9]) (by kernel_rfl) (by simp) ?_
                refine AllReadyIn.cons rfl (fun K hK => ?_) ?_
                rotate_left
                exact AllReadyIn.nil
                go_simp
                try (refine hK _ _ ?_; clear hK K)
                refine wpAnyIn_done (by kernel_rfl) ?_ _
                gi_wp2
                exact ⟨(KeepsOthers.drew _).from _, ⟨below_drew (Below.refl _ _), rfl⟩, ⟨fun j hj => by rcases List.mem_append.1 hj with hj | hj; exact HNO.out j hj; obtain rfl : j = x := (by simpa using hj); exact HHA.out _ hh, blk_drew Q2.out, blk_drew Q3.out, blk_drew Q4.out, blk_drew Q5.out⟩, below_drew HBW.out, trivial⟩
              · go_simp
                try (refine hK _ _ ?_; clear hK K)
                refine wpAnyIn_ready (rs := [7]) (by kernel_rfl) (by simp) ?_
                refine AllReadyIn.cons rfl (fun K hK => ?_) ?_
                rotate_left
                exact AllReadyIn.nil
                go_simp
                gi_wp2_with (refine ⟨trivial, ?_⟩; gi_at_call 38; refine (callsIn_wide.2 (pack_c _ _ _)).mono ?_; rintro e w' ⟨rfl, rfl⟩)
                try (refine hK _ _ ?_; clear hK K)
                refine wpAnyIn_ready (rs := [9]) (by kernel_rfl) (by simp) ?_
                refine AllReadyIn.cons rfl (fun K hK => ?_) ?_
                rotate_left
                exact AllReadyIn.nil
                go_simp
                try (refine hK _ _ ?_; clear hK K)
                refine wpAnyIn_done (by kernel_rfl) ?_ _
                gi_wp2
                exact ⟨(KeepsOthers.drew _).from _, ⟨below_drew (Below.refl _ _), rfl⟩, ⟨fun j hj => by rcases List.mem_append.1 hj with hj | hj; exact HNO.out j hj; obtain rfl : j = x := (by simpa using hj); exact HHA.out _ hh, blk_drew Q2.out, blk_drew Q3.out, blk_drew Q4.out, blk_drew Q5.out⟩, below_drew HBW.out, trivial⟩
            · go_simp
              try (refine hK _ _ ?_; clear hK K)
              refine wpAnyIn_ready (rs := [6]) (by kernel_rfl) (by simp) ?_
              refine AllReadyIn.cons rfl (fun K hK => ?_) ?_
              rotate_left
              exact AllReadyIn.nil
              go_simp
              try (refine hK _ _ ?_; clear hK K)
              refine wpAnyIn_ready (rs := [7]) (by kernel_rfl) (by simp) ?_
              refine AllReadyIn.cons rfl (fun K hK => ?_) ?_
              rotate_left
              exact AllReadyIn.nil
              go_simp
              gi_wp2_with (refine ⟨trivial, ?_⟩; gi_at_call 38; refine (callsIn_wide.2 (pack_c _ _ _)).mono ?_; rintro e w' ⟨rfl, rfl⟩)
              try (refine hK _ _ ?_; clear hK K)
              refine wpAnyIn_ready (rs := [9]) (by kernel_rfl) (by simp) ?_
              refine AllReadyIn.cons rfl (fun K hK => ?_) ?_
              rotate_left
              exact AllReadyIn.nil
              go_simp
              try (refine hK _ _ ?_; clear hK K)
              refine wpAnyIn_done (by kernel_rfl) ?_ _
              gi_wp2
              exact ⟨(KeepsOthers.drew _).from _, ⟨below_drew (Below.refl _ _), rfl⟩, ⟨fun j hj => by rcases List.mem_append.1 hj with hj | hj; exact HNO.out j hj; obtain rfl : j = x := (by simpa using hj); exact HHA.out _ hh, blk_drew Q2.out, blk_drew Q3.out, blk_drew Q4.out, blk_drew Q5.out⟩, below_drew HBW.out, trivial⟩
          · go_simp
            try (refine hK _ _ ?_; clear hK K)
            refine wpAnyIn_ready (rs := [4]) (by kernel_rfl) (by simp) ?_
            refine AllReadyIn.cons rfl (fun K hK => ?_) ?_
            rotate_left
            exact AllReadyIn.nil
            go_simp
            try (refine hK _ _ ?_; clear hK K)
            refine wpAnyIn_take (i := 5) (v := ?_) rfl rfl (by kernel_rfl) (by kernel_rfl) (by kernel_rfl) (fun _ _ _ h => h) ⟨Or.inl ⟨by rfl, ?_⟩, fun _ => rfl⟩ ?_
            rotate_left
            · (intro w; go_simp; with_reducible rfl)
            refine wpAnyIn_ready (rs := [6]) (by kernel_rfl) (by simp) ?_
            refine AllReadyIn.cons rfl (fun K hK => ?_) ?_
            rotate_left
            exact AllReadyIn.nil
            go_simp
            try (refine hK _ _ ?_; clear hK K)
            refine wpAnyIn_ready (rs := [7]) (by kernel_rfl) (by simp) ?_
            refine AllReadyIn.cons rfl (fun K hK => ?_) ?_
            rotate_left
            exact AllReadyIn.nil
            go_simp
            gi_wp2_with (refine ⟨trivial, ?_⟩; gi_at_call 38; refine (callsIn_wide.2 (pack_c _ _ _)).mono ?_; rintro e w' ⟨rfl, rfl⟩)
            try (refine hK _ _ ?_; clear hK K)
            refine wpAnyIn_ready (rs := [9]) (by kernel_rfl) (by simp) ?_
            refine AllReadyIn.cons rfl (fun K hK => ?_) ?_
            rotate_left
            exact AllReadyIn.nil
            go_simp
            try (refine hK _ _ ?_; clear hK K)
            refine wpAnyIn_done (by kernel_rfl) ?_ _
            gi_wp2
            exact ⟨(KeepsOthers.drew _).from _, ⟨below_drew (Below.refl _ _), rfl⟩, ⟨fun j hj => by rcases List.mem_append.1 hj with hj | hj; exact HNO.out j hj; obtain rfl : j = x := (by simpa using hj); exact HHA.out _ hh, blk_drew Q2.out, blk_drew Q3.out, blk_drew Q4.out, blk_drew Q5.out⟩, below_drew HBW.out, trivial⟩
        · go_simp
          try (refine hK _ _ ?_; clear hK K)
          refine wpAnyIn_ready (rs := [2]) (by kernel_rfl) (by simp) ?_
          refine AllReadyIn.cons rfl (fun K hK => ?_) ?_
          rotate_left
          exact AllReadyIn.nil
          go_simp
          try (refine hK _ _ ?_; clear hK K)
          refine wpAnyIn_ready (rs := [4]) (by kernel_rfl) (by simp) ?_
          refine AllReadyIn.cons rfl (fun K hK => ?_) ?_
          rotate_left
          exact AllReadyIn.nil
          go_simp
          try (refine hK _ _ ?_; clear hK K)
          refine wpAnyIn_take (i := 5) (v := ?_) rfl rfl (by kernel_rfl) (by kernel_rfl) (by kernel_rfl) (fun _ _ _ h => h) ⟨Or.inl ⟨by rfl, ?_⟩, fun _ => rfl⟩ ?_
          rotate_left
          · (intro w; go_simp; with_reducible rfl)
          refine wpAnyIn_ready (rs := [6]) (by kernel_rfl) (by simp) ?_
          refine AllReadyIn.cons rfl (fun K hK => ?_) ?_
          rotate_left
          exact AllReadyIn.nil
          go_simp
          try (refine hK _ _ ?_; clear hK K)
          refine wpAnyIn_ready (rs := [7]) (by kernel_rfl) (by simp) ?_
          refine AllReadyIn.cons rfl (fun K hK => ?_) ?_
          rotate_left
          exact AllReadyIn.nil
          go_simp
          gi_wp2_with (refine ⟨trivial, ?_⟩; gi_at_call 38; refine (callsIn_wide.2 (pack_c _ _ _)).mono ?_; rintro e w' ⟨rfl, rfl⟩)
          try (refine hK _ _ ?_; clear hK K)
          refine wpAnyIn_ready (rs := [9]) (by kernel_rfl) (by simp) ?_
          refine AllReadyIn.cons rfl (fun K hK => ?_) ?_
          rotate_left
          exact AllReadyIn.nil
          go_simp
          try (refine hK _ _ ?_; clear hK K)
          refine wpAnyIn_done (by kernel_rfl) ?_ _
          gi_wp2
          exact ⟨(KeepsOthers.drew _).from _, ⟨below_drew (Below.refl _ _), rfl⟩, ⟨fun j hj => by rcases List.mem_append.1 hj with hj | hj; exact HNO.out j hj; obtain rfl : j = x := (by simpa using hj); exact HHA.out _ hh, blk_drew Q2.out, blk_drew Q3.out, blk_drew Q4.out, blk_drew Q5.out⟩, below_drew HBW.out, trivial⟩
    case stop =>
      rintro D c' pre W hD hpre ⟨⟨rfl, p, x, rfl, hno, hit, q4, q5⟩, hB, hX⟩ hK
      have E0 := Aside0.mk (fnd_a49 hz (fd_some49 hpre hno hit))
      have Q4 := Aside0.mk q4
      have Q5 := Aside0.mk q5
      have HK2 := Aside0.mk hK
      have HX1 := Aside0.mk hX
      have HDM := Aside0.mk hD
      have HB3 := Aside0.mk hB
      clear q4 q5 hK hX hD hB hno hpre
      gi_wp2
      have hk := HK2.out
      have hr : ∀ r, some D = some r → ∃ o : Obj, W.heap[r]? = some o ∧ o.isCells = false := fun r e => by cases e; exact ⟨_, hk, rfl⟩
      have e4 := blk_own49 Q4.out (grownBy_putObj' _ D (.deferred none)) hr
      have e5 := blk_own49 Q5.out (grownBy_putObj' _ D (.deferred none)) hr
      have hb1 := (HB3.out).trans (belowK_b (w := w) (Nat.le_refl _) W D _ (.deferred none) (by have h1 := HDM.out; rw [HS1.out] at h1; have h2 := HB1.out.size; omega) hk rfl rfl)
      refine ⟨by simp, .inl ⟨_, _, rfl, run_takeDeferred hk, ?_⟩⟩
      exact ⟨_, results_find49 _ _ _ _ _ _ rfl rfl e4 e5, by rw [E0.out], hb1⟩
    case done =>
      rintro D1 ys V2 hD hys ⟨⟨hno, q2, q3, q4, q5⟩, hB, hX⟩ hK
      have HN1 := Aside0.mk (fd_none49 hys hno)
      have HK1 := Aside0.mk hK
      have HD1 := Aside0.mk (blk_lt hK)
      have HDL := Aside0.mk hD
      have hB2 := hB
      have B2_2 := Aside0.mk q2
      have B3_2 := Aside0.mk q3
      have B4_2 := Aside0.mk q4
      have B5_2 := Aside0.mk q5
      have a20 := (blk_cell q2 0).trans rfl
      have a21 := (blk_cell q2 1).trans rfl
      clear q2 q3 q4 q5 hK hD hys hno hX HQ1
      gi_wp2
      rw [roundsIn_succ]
      gi_wp2_with (refine ⟨trivial, ?_⟩; gi_at_call 35; refine (callsIn_wide.2 (in49_c _ _ _ _ _ _)).mono ?_; rintro e w' ⟨rfl, rfl⟩)
      have HB2 := Aside0.mk hB2
      have hBQ2 : Below w.heap.size w (qbox49 V2 A xs.length c last 2) := HB2.out.trans (qbox49_below _ _ _ _ _ _ HB2.out.size)
      have HBQ2 := Aside0.mk hBQ2
      have HQ2 := qbox49_cells V2 A xs.length c last 2
      have HS2 := Aside0.mk (qbox49_size V2 A xs.length c last 2)
      refine wpIn_rangeFunc_ownG rfl (by omega) (gf := 54) (lb := #[.pointer (some ⟨V2.heap.size, 0, none⟩), .pointer (some ⟨V2.heap.size + 1, 0, none⟩)]) rfl trivial (enters_of Try.func54 (by kernel_rfl) rfl)
        (in49_stops Fence.wide 4 trivial rfl (by omega) V2.heap.size (V2.heap.size + 1) w.heap.size A c xs 2 hbig _ (by rw [HS2.out]; omega) (by rw [HS2.out]; omega) (by rw [HS2.out]; have := HB2.out.size; omega) HQ2.1 HQ2.2.2 (fun W' hb => Kd.C_below HC.out (HBQ2.out.trans hb))) KpB.trans (kpB_b (by rw [HS2.out]; have := HB2.out.size; omega) (by rw [HS2.out]; omega)) (Below.refl _ _) (fun _ => rfl)
        (fun pre W => ((∀ j ∈ pre, hit49 xs h j.val = false) ∧ W.heap[w.heap.size]? = some (.cells #[.slice A xs.length c, .int .i64 last] 24 (0, 0)) ∧ W.heap[w.heap.size + 1]? = some (.cells #[.int .i64 h] 3 (0, 0)) ∧ W.heap[w.heap.size + 1 + 1]? = some (.cells #[.int .i64 0] 3 (0, 0)) ∧ W.heap[w.heap.size + 1 + 1 + 1]? = some (.cells #[.int .i64 0] 34 (0, 0))) ∧ (Below w.heap.size w W ∧ W.heap[D1]? = some (.deferred (some []))))
        (fun c' pre W => (c' = .ret ∧ ∃ (p : List (Fin xs.length)) (x : Fin xs.length), pre = p ++ [x] ∧ (∀ j ∈ p, hit49 xs h j.val = false) ∧ hit49 xs h x.val = true ∧ W.heap[w.heap.size + 1 + 1]? = some (.cells #[.int .i64 (x.val : Int)] 3 (0, 0)) ∧ W.heap[w.heap.size + 1 + 1 + 1]? = some (.cells #[.int .i64 0] 34 (0, 0))) ∧ (Below w.heap.size w W ∧ W.heap[D1]? = some (.deferred (some []))))
        (OwnFrom.and (Own.from (fun s A B row hs hg hr => ⟨hs.1, blk_own49 hs.2.1 hg hr, blk_own49 hs.2.2.1 hg hr, blk_own49 hs.2.2.2.1 hg hr, blk_own49 hs.2.2.2.2 hg hr⟩) _) (OwnFrom.and (ownFrom_below (Nat.le_refl _) (by rw [HS2.out]; have := HB2.out.size; omega)) (fun s W W' row hs hg hr => (hg.block D1 (blk_lt hs) (fun e => by have := (hr D1 e.symm).1; rw [HS2.out] at this; have := HD1.out; omega)).trans hs)))
        (fun c => OwnFrom.and (Own.from (fun s A B row hs hg hr => by obtain ⟨h1, p, x, h2, h3, h4, h5, h6⟩ := hs; exact ⟨h1, p, x, h2, h3, h4, blk_own49 h5 hg hr, blk_own49 h6 hg hr⟩) _) (OwnFrom.and (ownFrom_below (Nat.le_refl _) (by rw [HS2.out]; have := HB2.out.size; omega)) (fun s W W' row hs hg hr => (hg.block D1 (blk_lt hs) (fun e => by have := (hr D1 e.symm).1; rw [HS2.out] at this; have := HD1.out; omega)).trans hs)))
        ⟨⟨fun j hj => by simp at hj, blk_alloc (blk_alloc B2_2.out _) _, blk_alloc (blk_alloc B3_2.out _) _, blk_alloc (blk_alloc B4_2.out _) _, blk_alloc (blk_alloc B5_2.out _) _⟩, HBQ2.out, (blk_alloc (blk_alloc HK1.out _) _)⟩
        (fun x => { tmps := #[.agg #[.slice A xs.length c, .int .i64 last], .int .i64 h, .pointer (some ⟨w.heap.size, 0, none⟩), .pointer (some ⟨w.heap.size + 1, 0, none⟩), .pointer (some ⟨w.heap.size + 1 + 1, 0, none⟩), .pointer (some ⟨w.heap.size + 1 + 1 + 1, 0, none⟩), undef, .int .i64 2, .int .i64 (x.val : Int), .int .i64 h, .bool false, .agg #[.int .i64 1, .int .i64 2], .int .i64 1, .bool true, .int .i64 2, .agg #[.slice A xs.length c, .int .i64 last], .int .i64 2, .func (.func 54) #[] #[.pointer (some ⟨V2.heap.size, 0, none⟩), .pointer (some ⟨V2.heap.size + 1, 0, none⟩)], .int .i64 (x.val : Int), undef, undef, undef, undef, undef, undef, undef, undef, undef, undef, undef, .int .i64 1], defers := [] }) ?assign ?body ?done ?stop
      case assign =>
        intro l x W K hK
        gi_wp2
        exact hK
      case body =>
        rintro l pre x W ⟨⟨hno, q2, q3, q4, q5⟩, hB, hX⟩ _
        have hCW := Kd.C_below HC.out hB
        obtain ⟨ad, eA, hcx, hcy, hcz⟩ := at_T49 hCW (x.val : Int) (by omega) (by have := x.isLt; omega)
        cases eA
        rw [Int.toNat_natCast] at hcx hcy hcz
        have hxl := x.isLt
        obtain ⟨y0, hy0⟩ : ∃ y0 : S49, y0 = xs.getD x.val z49 := ⟨_, rfl⟩
        have hxv : rd_T49 xs (x.val : Int) = y0 := by unfold rd_T49; rw [Int.toNat_natCast, hy0]
        rw [hxv] at hcx hcy hcz
        have a20 := (blk_cell q2 0).trans rfl
        have a30 := (blk_cell q3 0).trans rfl
        have a40 := (blk_cell q4 0).trans rfl
        have a50 := (blk_cell q5 0).trans rfl
        have f40 := blk_frozen q4 0
        have f50 := blk_frozen q5 0
        have HH : ∀ b, (pk (x.val : Int) y0.f1 == h) = b → hit49 xs h x.val = b := fun b e => by unfold hit49; rw [← hy0]; exact e
        have HHA := Aside0.mk HH
        have Q2 := Aside0.mk q2
        have Q3 := Aside0.mk q3
        have Q4 := Aside0.mk q4
        have Q5 := Aside0.mk q5
        have HBW := Aside0.mk hB
        have HNO := Aside0.mk hno
        have hmx : Try.prog.follows .mixedOrders = true := by kernel_rfl
        have hdd : 1 ≤ 5 - 1 - 1 := by omega
        clear HH q2 q3 q4 q5 hB hno hCW hy0 hxv hcx hcz HQ2
        cases hh : (pk (x.val : Int) y0.f1 == h) with
        | true =>
          gi_wp2
          refine region_round rfl l (by kernel_rfl) hmx ?_
          simp only [List.size_toArray, List.length_cons, List.length_nil, Nat.reduceAdd, Array.replicate_succ, Array.replicate_zero, List.push_toArray, List.append_toArray, List.nil_append, List.cons_append]
          refine wpAnyIn_take (i := 0) (v := ?_) rfl rfl (by kernel_rfl) (by kernel_rfl) (by kernel_rfl) (fun _ _ _ h => h) ⟨Or.inl ⟨by rfl, ?_⟩, fun _ => rfl⟩ ?_
          rotate_left
          · (intro w; go_simp; with_reducible rfl)
          refine wpAnyIn_take (i := 1) (v := ?_) rfl rfl (by kernel_rfl) (by kernel_rfl) (by kernel_rfl) (fun _ _ _ h => h) ⟨Or.inl ⟨by rfl, ?_⟩, fun _ => rfl⟩ ?_
          rotate_left
          · (intro w; go_simp; with_reducible rfl)
          refine wpAnyIn_take (i := 3) (v := ?_) rfl rfl (by kernel_rfl) (by kernel_rfl) (by kernel_rfl) (fun _ _ _ h => h) ⟨Or.inl ⟨by rfl, ?_⟩, fun _ => rfl⟩ ?_
          rotate_left
          · (intro w; go_simp; with_reducible rfl)
          refine wpAnyIn_ready (rs := [2, 8]) (by kernel_rfl) (by simp) ?_
          refine AllReadyIn.cons rfl (fun K hK => ?_) ?_
          rotate_left
          refine AllReadyIn.cons rfl (fun K hK => ?_) ?_
          rotate_left
          exact AllReadyIn.nil
          · go_simp
            try (refine hK _ _ ?_; clear hK K)
            refine wpAnyIn_ready (rs := [4, 8]) (by kernel_rfl) (by simp) ?_
            refine AllReadyIn.cons rfl (fun K hK => ?_) ?_
            rotate_left
            refine AllReadyIn.cons rfl (fun K hK => ?_) ?_
            rotate_left
            exact AllReadyIn.nil
            · go_simp
              try (refine hK _ _ ?_; clear hK K)
              refine wpAnyIn_take (i := 5) (v := ?_) rfl rfl (by kernel_rfl) (by kernel_rfl) (by kernel_rfl) (fun _ _ _ h => h) ⟨Or.inl ⟨by rfl, ?_⟩, fun _ => rfl⟩ ?_
              rotate_left
              · (intro w; go_simp; with_reducible rfl)
              refine wpAnyIn_ready (rs := [6, 8]) (by kernel_rfl) (by simp) ?_
              refine AllReadyIn.cons rfl (fun K hK => ?_) ?_
              rotate_left
              refine AllReadyIn.cons rfl (fun K hK => ?_) ?_
              rotate_left
              exact AllReadyIn.nil
              · go_simp
                try (refine hK _ _ ?_; clear hK K)
                refine wpAnyIn_ready (rs := [7, 8]) (by kernel_rfl) (by simp) ?_
                refine AllReadyIn.cons rfl (fun K hK => ?_) ?_
                rotate_left
                refine AllReadyIn.cons rfl (fun K hK => ?_) ?_
                rotate_left
                exact AllReadyIn.nil
                · go_simp
                  gi_wp2_with (refine ⟨trivial, ?_⟩; gi_at_call 38; refine (callsIn_wide.2 (pack_c _ _ _)).mono ?_; rintro e w' ⟨rfl, rfl⟩)
                  try (refine hK _ _ ?_; clear hK K)
                  refine wpAnyIn_ready (rs := [8]) (by kernel_rfl) (by simp) ?_
                  refine AllReadyIn.cons rfl (fun K hK => ?_) ?_
                  rotate_left
                  exact AllReadyIn.nil
                  go_simp
                  try (refine hK _ _ ?_; clear hK K)
                  refine wpAnyIn_ready (rs := [9]) (by kernel_rfl) (by simp) ?_
                  refine AllReadyIn.cons rfl (fun K hK => ?_) ?_
                  rotate_left
                  exact AllReadyIn.nil
                  go_simp
                  try (refine hK _ _ ?_; clear hK K)
                  refine wpAnyIn_done (by kernel_rfl) ?_ _
                  gi_wp2
                  exact ⟨(((KeepsOthers.setCell _ _ _).trans (KeepsOthers.setCell _ _ _)).trans (KeepsOthers.drew _)).from _, ⟨rfl, pre, x, rfl, HNO.out, HHA.out _ hh, blk_drew ((Below.heap_setCell _ _ _ _ (by dsimp only; omega)).trans (blk_put (cs := #[.int .i64 0]) Q4.out 0 _ rfl)), blk_drew (blk_put (cs := #[.int .i64 0]) ((Below.heap_setCell _ _ _ _ (by dsimp only; omega)).trans Q5.out) 0 _ rfl)⟩, below_drew ((HBW.out.setCell (p := ⟨w.heap.size + 1 + 1, 0, none⟩) (by dsimp only; omega) _).setCell (p := ⟨w.heap.size + 1 + 1 + 1, 0, none⟩) (by dsimp only; omega) _), (((KeepsOthers.setCell _ _ _).trans (KeepsOthers.setCell _ _ _)).trans (KeepsOthers.drew _)).same D1 _ hX rfl⟩
                · go_simp
                  try (refine hK _ _ ?_; clear hK K)
                  refine wpAnyIn_ready (rs := [7]) (by kernel_rfl) (by simp) ?_
                  refine AllReadyIn.cons rfl (fun K hK => ?_) ?_
                  rotate_left
                  exact AllReadyIn.nil
                  go_simp
                  gi_wp2_with (refine ⟨trivial, ?_⟩; gi_at_call 38; refine (callsIn_wide.2 (pack_c _ _ _)).mono ?_; rintro e w' ⟨rfl, rfl⟩)
                  try (refine hK _ _ ?_; clear hK K)
                  refine wpAnyIn_ready (rs := [9]) (by kernel_rfl) (by simp) ?_
                  refine AllReadyIn.cons rfl (fun K hK => ?_) ?_
                  rotate_left
                  exact AllReadyIn.nil
                  go_simp
                  try (refine hK _ _ ?_; clear hK K)
                  refine wpAnyIn_done (by kernel_rfl) ?_ _
                  gi_wp2
                  exact ⟨(((KeepsOthers.setCell _ _ _).trans (KeepsOthers.setCell _ _ _)).trans (KeepsOthers.drew _)).from _, ⟨rfl, pre, x, rfl, HNO.out, HHA.out _ hh, blk_drew ((Below.heap_setCell _ _ _ _ (by dsimp only; omega)).trans (blk_put (cs := #[.int .i64 0]) Q4.out 0 _ rfl)), blk_drew (blk_put (cs := #[.int .i64 0]) ((Below.heap_setCell _ _ _ _ (by dsimp only; omega)).trans Q5.out) 0 _ rfl)⟩, below_drew ((HBW.out.setCell (p := ⟨w.heap.size + 1 + 1, 0, none⟩) (by dsimp only; omega) _).setCell (p := ⟨w.heap.size + 1 + 1 + 1, 0, none⟩) (by dsimp only; omega) _), (((KeepsOthers.setCell _ _ _).trans (KeepsOthers.setCell _ _ _)).trans (KeepsOthers.drew _)).same D1 _ hX rfl⟩
              · go_simp
                try (refine hK _ _ ?_; clear hK K)
                refine wpAnyIn_ready (rs := [6]) (by kernel_rfl) (by simp) ?_
                refine AllReadyIn.cons rfl (fun K hK => ?_) ?_
                rotate_left
                exact AllReadyIn.nil
                go_simp
                try (refine hK _ _ ?_; clear hK K)
                refine wpAnyIn_ready (rs := [7]) (by kernel_rfl) (by simp) ?_
                refine AllReadyIn.cons rfl (fun K hK => ?_) ?_
                rotate_left
                exact AllReadyIn.nil
                go_simp
                gi_wp2_with (refine ⟨trivial, ?_⟩; gi_at_call 38; refine (callsIn_wide.2 (pack_c _ _ _)).mono ?_; rintro e w' ⟨rfl, rfl⟩)
                try (refine hK _ _ ?_; clear hK K)
                refine wpAnyIn_ready (rs := [9]) (by kernel_rfl) (by simp) ?_
                refine AllReadyIn.cons rfl (fun K hK => ?_) ?_
                rotate_left
                exact AllReadyIn.nil
                go_simp
                try (refine hK _ _ ?_; clear hK K)
                refine wpAnyIn_done (by kernel_rfl) ?_ _
                gi_wp2
                exact ⟨(((KeepsOthers.setCell _ _ _).trans (KeepsOthers.setCell _ _ _)).trans (KeepsOthers.drew _)).from _, ⟨rfl, pre, x, rfl, HNO.out, HHA.out _ hh, blk_drew ((Below.heap_setCell _ _ _ _ (by dsimp only; omega)).trans (blk_put (cs := #[.int .i64 0]) Q4.out 0 _ rfl)), blk_drew (blk_put (cs := #[.int .i64 0]) ((Below.heap_setCell _ _ _ _ (by dsimp only; omega)).trans Q5.out) 0 _ rfl)⟩, below_drew ((HBW.out.setCell (p := ⟨w.heap.size + 1 + 1, 0, none⟩) (by dsimp only; omega) _).setCell (p := ⟨w.heap.size + 1 + 1 + 1, 0, none⟩) (by dsimp only; omega) _), (((KeepsOthers.setCell _ _ _).trans (KeepsOthers.setCell _ _ _)).trans (KeepsOthers.drew _)).same D1 _ hX rfl⟩
            · go_simp
              try (refine hK _ _ ?_; clear hK K)
              refine wpAnyIn_ready (rs := [4]) (by kernel_rfl) (by simp) ?_
              refine AllReadyIn.cons rfl (fun K hK => ?_) ?_
              rotate_left
              exact AllReadyIn.nil
              go_simp
              try (refine hK _ _ ?_; clear hK K)
              refine wpAnyIn_take (i := 5) (v := ?_) rfl rfl (by kernel_rfl) (by kernel_rfl) (by kernel_rfl) (fun _ _ _ h => h) ⟨Or.inl ⟨by rfl, ?_⟩, fun _ => rfl⟩ ?_
              rotate_left
              · (intro w; go_simp; with_reducible rfl)
              refine wpAnyIn_ready (rs := [6]) (by kernel_rfl) (by simp) ?_
              refine AllReadyIn.cons rfl (fun K hK => ?_) ?_
              rotate_left
              exact AllReadyIn.nil
              go_simp
              try (refine hK _ _ ?_; clear hK K)
              refine wpAnyIn_ready (rs := [7]) (by kernel_rfl) (by simp) ?_
              refine AllReadyIn.cons rfl (fun K hK => ?_) ?_
              rotate_left
              exact AllReadyIn.nil
              go_simp
              gi_wp2_with (refine ⟨trivial, ?_⟩; gi_at_call 38; refine (callsIn_wide.2 (pack_c _ _ _)).mono ?_; rintro e w' ⟨rfl, rfl⟩)
              try (refine hK _ _ ?_; clear hK K)
              refine wpAnyIn_ready (rs := [9]) (by kernel_rfl) (by simp) ?_
              refine AllReadyIn.cons rfl (fun K hK => ?_) ?_
              rotate_left
              exact AllReadyIn.nil
              go_simp
              try (refine hK _ _ ?_; clear hK K)
              refine wpAnyIn_done (by kernel_rfl) ?_ _
              gi_wp2
              exact ⟨(((KeepsOthers.setCell _ _ _).trans (KeepsOthers.setCell _ _ _)).trans (KeepsOthers.drew _)).from _, ⟨rfl, pre, x, rfl, HNO.out, HHA.out _ hh, blk_drew ((Below.heap_setCell _ _ _ _ (by dsimp only; omega)).trans (blk_put (cs := #[.int .i64 0]) Q4.out 0 _ rfl)), blk_drew (blk_put (cs := #[.int .i64 0]) ((Below.heap_setCell _ _ _ _ (by dsimp only; omega)).trans Q5.out) 0 _ rfl)⟩, below_drew ((HBW.out.setCell (p := ⟨w.heap.size + 1 + 1, 0, none⟩) (by dsimp only; omega) _).setCell (p := ⟨w.heap.size + 1 + 1 + 1, 0, none⟩) (by dsimp only; omega) _), (((KeepsOthers.setCell _ _ _).trans (KeepsOthers.setCell _ _ _)).trans (KeepsOthers.drew _)).same D1 _ hX rfl⟩
          · go_simp
            try (refine hK _ _ ?_; clear hK K)
            refine wpAnyIn_ready (rs := [2]) (by kernel_rfl) (by simp) ?_
            refine AllReadyIn.cons rfl (fun K hK => ?_) ?_
            rotate_left
            exact AllReadyIn.nil
            go_simp
            try (refine hK _ _ ?_; clear hK K)
            refine wpAnyIn_ready (rs := [4]) (by kernel_rfl) (by simp) ?_
            refine AllReadyIn.cons rfl (fun K hK => ?_) ?_
            rotate_left
            exact AllReadyIn.nil
            go_simp
            try (refine hK _ _ ?_; clear hK K)
            refine wpAnyIn_take (i := 5) (v := ?_) rfl rfl (by kernel_rfl) (by kernel_rfl) (by kernel_rfl) (fun _ _ _ h => h) ⟨Or.inl ⟨by rfl, ?_⟩, fun _ => rfl⟩ ?_
            rotate_left
            · (intro w; go_simp; with_reducible rfl)
            refine wpAnyIn_ready (rs := [6]) (by kernel_rfl) (by simp) ?_
            refine AllReadyIn.cons rfl (fun K hK => ?_) ?_
            rotate_left
            exact AllReadyIn.nil
            go_simp
            try (refine hK _ _ ?_; clear hK K)
            refine wpAnyIn_ready (rs := [7]) (by kernel_rfl) (by simp) ?_
            refine AllReadyIn.cons rfl (fun K hK => ?_) ?_
            rotate_left
            exact AllReadyIn.nil
            go_simp
            gi_wp2_with (refine ⟨trivial, ?_⟩; gi_at_call 38; refine (callsIn_wide.2 (pack_c _ _ _)).mono ?_; rintro e w' ⟨rfl, rfl⟩)
            try (refine hK _ _ ?_; clear hK K)
            refine wpAnyIn_ready (rs := [9]) (by kernel_rfl) (by simp) ?_
            refine AllReadyIn.cons rfl (fun K hK => ?_) ?_
            rotate_left
            exact AllReadyIn.nil
            go_simp
            try (refine hK _ _ ?_; clear hK K)
            refine wpAnyIn_done (by kernel_rfl) ?_ _
            gi_wp2
            exact ⟨(((KeepsOthers.setCell _ _ _).trans (KeepsOthers.setCell _ _ _)).trans (KeepsOthers.drew _)).from _, ⟨rfl, pre, x, rfl, HNO.out, HHA.out _ hh, blk_drew ((Below.heap_setCell _ _ _ _ (by dsimp only; omega)).trans (blk_put (cs := #[.int .i64 0]) Q4.out 0 _ rfl)), blk_drew (blk_put (cs := #[.int .i64 0]) ((Below.heap_setCell _ _ _ _ (by dsimp only; omega)).trans Q5.out) 0 _ rfl)⟩, below_drew ((HBW.out.setCell (p := ⟨w.heap.size + 1 + 1, 0, none⟩) (by dsimp only; omega) _).setCell (p := ⟨w.heap.size + 1 + 1 + 1, 0, none⟩) (by dsimp only; omega) _), (((KeepsOthers.setCell _ _ _).trans (KeepsOthers.setCell _ _ _)).trans (KeepsOthers.drew _)).same D1 _ hX rfl⟩
        | false =>
          gi_wp2
          refine region_round rfl l (by kernel_rfl) hmx ?_
          simp only [List.size_toArray, List.length_cons, List.length_nil, Nat.reduceAdd, Array.replicate_succ, Array.replicate_zero, List.push_toArray, List.append_toArray, List.nil_append, List.cons_append]
          refine wpAnyIn_take (i := 0) (v := ?_) rfl rfl (by kernel_rfl) (by kernel_rfl) (by kernel_rfl) (fun _ _ _ h => h) ⟨Or.inl ⟨by rfl, ?_⟩, fun _ => rfl⟩ ?_
          rotate_left
          · (intro w; go_simp; with_reducible rfl)
          refine wpAnyIn_take (i := 1) (v := ?_) rfl rfl (by kernel_rfl) (by kernel_rfl) (by kernel_rfl) (fun _ _ _ h => h) ⟨Or.inl ⟨by rfl, ?_⟩, fun _ => rfl⟩ ?_
          rotate_left
          · (intro w; go_simp; with_reducible rfl)
          refine wpAnyIn_take (i := 3) (v := ?_) rfl rfl (by kernel_rfl) (by kernel_rfl) (by kernel_rfl) (fun _ _ _ h => h) ⟨Or.inl ⟨by rfl, ?_⟩, fun _ => rfl⟩ ?_
          rotate_left
          · (intro w; go_simp; with_reducible rfl)
          refine wpAnyIn_ready (rs := [2, 8]) (by kernel_rfl) (by simp) ?_
          refine AllReadyIn.cons rfl (fun K hK => ?_) ?_
          rotate_left
          refine AllReadyIn.cons rfl (fun K hK => ?_) ?_
          rotate_left
          exact AllReadyIn.nil
          · go_simp
            try (refine hK _ _ ?_; clear hK K)
            refine wpAnyIn_ready (rs := [4, 8]) (by kernel_rfl) (by simp) ?_
            refine AllReadyIn.cons rfl (fun K hK => ?_) ?_
            rotate_left
            refine AllReadyIn.cons rfl (fun K hK => ?_) ?_
            rotate_left
            exact AllReadyIn.nil
            · go_simp
              try (refine hK _ _ ?_; clear hK K)
              refine wpAnyIn_take (i := 5) (v := ?_) rfl rfl (by kernel_rfl) (by kernel_rfl) (by kernel_rfl) (fun _ _ _ h => h) ⟨Or.inl ⟨by rfl, ?_⟩, fun _ => rfl⟩ ?_
              rotate_left
              · (intro w; go_simp; with_reducible rfl)
              refine wpAnyIn_ready (rs := [6, 8]) (by kernel_rfl) (by simp) ?_
              refine AllReadyIn.cons rfl (fun K hK => ?_) ?_
              rotate_left
              refine AllReadyIn.cons rfl (fun K hK => ?_) ?_
              rotate_left
              exact AllReadyIn.nil
              · go_simp
                try (refine hK _ _ ?_; clear hK K)
                refine wpAnyIn_ready (rs := [7, 8]) (by kernel_rfl) (by simp) ?_
                refine AllReadyIn.cons rfl (fun K hK => ?_) ?_
                rotate_left
                refine AllReadyIn.cons rfl (fun K hK => ?_) ?_
                rotate_left
                exact AllReadyIn.nil
                · go_simp
                  gi_wp2_with (refine ⟨trivial, ?_⟩; gi_at_call 38; refine (callsIn_wide.2 (pack_c _ _ _)).mono ?_; rintro e w' ⟨rfl, rfl⟩)
                  try (refine hK _ _ ?_; clear hK K)
                  refine wpAnyIn_ready (rs := [8]) (by kernel_rfl) (by simp) ?_
                  refine AllReadyIn.cons rfl (fun K hK => ?_) ?_
                  rotate_left
                  exact AllReadyIn.nil
                  go_simp
                  try (refine hK _ _ ?_; clear hK K)
                  refine wpAnyIn_ready (rs := [9]) (by kernel_rfl) (by simp) ?_
                  refine AllReadyIn.cons rfl (fun K hK => ?_) ?_
                  rotate_left
                  exact AllReadyIn.nil
                  go_simp
                  try (refine hK _ _ ?_; clear hK K)
                  refine wpAnyIn_done (by kernel_rfl) ?_ _
                  gi_wp2
                  exact ⟨(KeepsOthers.drew _).from _, ⟨below_drew (Below.refl _ _), rfl⟩, ⟨fun j hj => by rcases List.mem_append.1 hj with hj | hj; exact HNO.out j hj; obtain rfl : j = x := (by simpa using hj); exact HHA.out _ hh, blk_drew Q2.out, blk_drew Q3.out, blk_drew Q4.out, blk_drew Q5.out⟩, below_drew HBW.out, hX⟩
                · go_simp
                  try (refine hK _ _ ?_; clear hK K)
                  refine wpAnyIn_ready (rs := [7]) (by kernel_rfl) (by simp) ?_
                  refine AllReadyIn.cons rfl (fun K hK => ?_) ?_
                  rotate_left
                  exact AllReadyIn.nil
                  go_simp
                  gi_wp2_with (refine ⟨trivial, ?_⟩; gi_at_call 38; refine (callsIn_wide.2 (pack_c _ _ _)).mono ?_; rintro e w' ⟨rfl, rfl⟩)
                  try (refine hK _ _ ?_; clear hK K)
                  refine wpAnyIn_ready (rs := [9]) (by kernel_rfl) (by simp) ?_
                  refine AllReadyIn.cons rfl (fun K hK => ?_) ?_
                  rotate_left
                  exact AllReadyIn.nil
                  go_simp
                  try (refine hK _ _ ?_; clear hK K)
                  refine wpAnyIn_done (by kernel_rfl) ?_ _
                  gi_wp2
                  exact ⟨(KeepsOthers.drew _).from _, ⟨below_drew (Below.refl _ _), rfl⟩, ⟨fun j hj => by rcases List.mem_append.1 hj with hj | hj; exact HNO.out j hj; obtain rfl : j = x := (by simpa using hj); exact HHA.out _ hh, blk_drew Q2.out, blk_drew Q3.out, blk_drew Q4.out, blk_drew Q5.out⟩, below_drew HBW.out, hX⟩
              · go_simp
                try (refine hK _ _ ?_; clear hK K)
                refine wpAnyIn_ready (rs := [6]) (by kernel_rfl) (by simp) ?_
                refine AllReadyIn.cons rfl (fun K hK => ?_) ?_
                rotate_left
                exact AllReadyIn.nil
                go_simp
                try (refine hK _ _ ?_; clear hK K)
                refine wpAnyIn_ready (rs := [7]) (by kernel_rfl) (by simp) ?_
                refine AllReadyIn.cons rfl (fun K hK => ?_) ?_
                rotate_left
                exact AllReadyIn.nil
                go_simp
                gi_wp2_with (refine ⟨trivial, ?_⟩; gi_at_call 38; refine (callsIn_wide.2 (pack_c _ _ _)).mono ?_; rintro e w' ⟨rfl, rfl⟩)
                try (refine hK _ _ ?_; clear hK K)
                refine wpAnyIn_ready (rs := [9]) (by kernel_rfl) (by simp) ?_
                refine AllReadyIn.cons rfl (fun K hK => ?_) ?_
                rotate_left
                exact AllReadyIn.nil
                go_simp
                try (refine hK _ _ ?_; clear hK K)
                refine wpAnyIn_done (by kernel_rfl) ?_ _
                gi_wp2
                exact ⟨(KeepsOthers.drew _).from _, ⟨below_drew (Below.refl _ _), rfl⟩, ⟨fun j hj => by rcases List.mem_append.1 hj with hj | hj; exact HNO.out j hj; obtain rfl : j = x := (by simpa using hj); exact HHA.out _ hh, blk_drew Q2.out, blk_drew Q3.out, blk_drew Q4.out, blk_drew Q5.out⟩, below_drew HBW.out, hX⟩
            · go_simp
              try (refine hK _ _ ?_; clear hK K)
              refine wpAnyIn_ready (rs := [4]) (by kernel_rfl) (by simp) ?_
              refine AllReadyIn.cons rfl (fun K hK => ?_) ?_
              rotate_left
              exact AllReadyIn.nil
              go_simp
              try (refine hK _ _ ?_; clear hK K)
              refine wpAnyIn_take (i := 5) (v := ?_) rfl rfl (by kernel_rfl) (by kernel_rfl) (by kernel_rfl) (fun _ _ _ h => h) ⟨Or.inl ⟨by rfl, ?_⟩, fun _ => rfl⟩ ?_
              rotate_left
              · (intro w; go_simp; with_reducible rfl)
              refine wpAnyIn_ready (rs := [6]) (by kernel_rfl) (by simp) ?_
              refine AllReadyIn.cons rfl (fun K hK => ?_) ?_
              rotate_left
              exact AllReadyIn.nil
              go_simp
              try (refine hK _ _ ?_; clear hK K)
              refine wpAnyIn_ready (rs := [7]) (by kernel_rfl) (by simp) ?_
              refine AllReadyIn.cons rfl (fun K hK => ?_) ?_
              rotate_left
              exact AllReadyIn.nil
              go_simp
              gi_wp2_with (refine ⟨trivial, ?_⟩; gi_at_call 38; refine (callsIn_wide.2 (pack_c _ _ _)).mono ?_; rintro e w' ⟨rfl, rfl⟩)
              try (refine hK _ _ ?_; clear hK K)
              refine wpAnyIn_ready (rs := [9]) (by kernel_rfl) (by simp) ?_
              refine AllReadyIn.cons rfl (fun K hK => ?_) ?_
              rotate_left
              exact AllReadyIn.nil
              go_simp
              try (refine hK _ _ ?_; clear hK K)
              refine wpAnyIn_done (by kernel_rfl) ?_ _
              gi_wp2
              exact ⟨(KeepsOthers.drew _).from _, ⟨below_drew (Below.refl _ _), rfl⟩, ⟨fun j hj => by rcases List.mem_append.1 hj with hj | hj; exact HNO.out j hj; obtain rfl : j = x := (by simpa using hj); exact HHA.out _ hh, blk_drew Q2.out, blk_drew Q3.out, blk_drew Q4.out, blk_drew Q5.out⟩, below_drew HBW.out, hX⟩
          · go_simp
            try (refine hK _ _ ?_; clear hK K)
            refine wpAnyIn_ready (rs := [2]) (by kernel_rfl) (by simp) ?_
            refine AllReadyIn.cons rfl (fun K hK => ?_) ?_
            rotate_left
            exact AllReadyIn.nil
            go_simp
            try (refine hK _ _ ?_; clear hK K)
            refine wpAnyIn_ready (rs := [4]) (by kernel_rfl) (by simp) ?_
            refine AllReadyIn.cons rfl (fun K hK => ?_) ?_
            rotate_left
            exact AllReadyIn.nil
            go_simp
            try (refine hK _ _ ?_; clear hK K)
            refine wpAnyIn_take (i := 5) (v := ?_) rfl rfl (by kernel_rfl) (by kernel_rfl) (by kernel_rfl) (fun _ _ _ h => h) ⟨Or.inl ⟨by rfl, ?_⟩, fun _ => rfl⟩ ?_
            rotate_left
            · (intro w; go_simp; with_reducible rfl)
            refine wpAnyIn_ready (rs := [6]) (by kernel_rfl) (by simp) ?_
            refine AllReadyIn.cons rfl (fun K hK => ?_) ?_
            rotate_left
            exact AllReadyIn.nil
            go_simp
            try (refine hK _ _ ?_; clear hK K)
            refine wpAnyIn_ready (rs := [7]) (by kernel_rfl) (by simp) ?_
            refine AllReadyIn.cons rfl (fun K hK => ?_) ?_
            rotate_left
            exact AllReadyIn.nil
            go_simp
            gi_wp2_with (refine ⟨trivial, ?_⟩; gi_at_call 38; refine (callsIn_wide.2 (pack_c _ _ _)).mono ?_; rintro e w' ⟨rfl, rfl⟩)
            try (refine hK _ _ ?_; clear hK K)
            refine wpAnyIn_ready (rs := [9]) (by kernel_rfl) (by simp) ?_
            refine AllReadyIn.cons rfl (fun K hK => ?_) ?_
            rotate_left
            exact AllReadyIn.nil
            go_simp
            try (refine hK _ _ ?_; clear hK K)
            refine wpAnyIn_done (by kernel_rfl) ?_ _
            gi_wp2
            exact ⟨(KeepsOthers.drew _).from _, ⟨below_drew (Below.refl _ _), rfl⟩, ⟨fun j hj => by rcases List.mem_append.1 hj with hj | hj; exact HNO.out j hj; obtain rfl : j = x := (by simpa using hj); exact HHA.out _ hh, blk_drew Q2.out, blk_drew Q3.out, blk_drew Q4.out, blk_drew Q5.out⟩, below_drew HBW.out, hX⟩
      case stop =>
        rintro D c' pre W hD hpre ⟨⟨rfl, p, x, rfl, hno, hit, q4, q5⟩, hB, hX⟩ hK
        have E0 := Aside0.mk (fnd_b49 hz HN1.out (fd_some49 hpre hno hit))
        have Q4 := Aside0.mk q4
        have Q5 := Aside0.mk q5
        have HK2 := Aside0.mk hK
        have HX1 := Aside0.mk hX
        have HDM := Aside0.mk hD
        have HB3 := Aside0.mk hB
        clear q4 q5 hK hX hD hB hno hpre
        gi_wp2
        have hk := HK2.out
        have hr : ∀ r, some D = some r → ∃ o : Obj, W.heap[r]? = some o ∧ o.isCells = false := fun r e => by cases e; exact ⟨_, hk, rfl⟩
        have e4 := blk_own49 Q4.out (grownBy_putObj' _ D (.deferred none)) hr
        have e5 := blk_own49 Q5.out (grownBy_putObj' _ D (.deferred none)) hr
        have hb1 := (HB3.out).trans (belowK_b (w := w) (Nat.le_refl _) W D _ (.deferred none) (by have h1 := HDM.out; rw [HS2.out] at h1; have h2 := HB2.out.size; omega) hk rfl rfl)
        have hd1 : D1 ≠ D := by have h1 := HDM.out; rw [HS2.out] at h1; have h2 := HD1.out; omega
        have hk1 : (W.putObj D (.deferred none)).heap[D1]? = some (.deferred (some [])) := (World.putObj_heap_other hd1).trans HX1.out
        have hr1 : ∀ r, some D1 = some r → ∃ o : Obj, (W.putObj D (.deferred none)).heap[r]? = some o ∧ o.isCells = false := fun r e => by cases e; exact ⟨_, hk1, rfl⟩
        have e41 := blk_own49 e4 (grownBy_putObj' _ D1 (.deferred none)) hr1
        have e51 := blk_own49 e5 (grownBy_putObj' _ D1 (.deferred none)) hr1
        have hb2 := hb1.trans (belowK_b (w := w) (Nat.le_refl _) _ D1 _ (.deferred none) (by have h1 := HDL.out; rw [HS1.out] at h1; have h2 := HB1.out.size; omega) hk1 rfl rfl)
        refine ⟨by simp, .inl ⟨_, _, rfl, run_takeDeferred hk, ⟨by simp, .inl ⟨_, _, rfl, run_takeDeferred hk1, ?_⟩⟩⟩⟩
        exact ⟨_, results_find49 _ _ _ _ _ _ rfl rfl e41 e51, by rw [E0.out], hb2⟩
      case done =>
        rintro D2 ys V3 hD hys ⟨⟨hno, q2, q3, q4, q5⟩, hB, hX⟩ hK
        have E0 := Aside0.mk (fnd_c49 hz HN1.out (fd_none49 hys hno))
        have a40 := (blk_cell q4 0).trans rfl
        have a50 := (blk_cell q5 0).trans rfl
        have f40 := blk_frozen q4 0
        have f50 := blk_frozen q5 0
        have Q4 := Aside0.mk q4
        have Q5 := Aside0.mk q5
        have HK2 := Aside0.mk hK
        have HX1 := Aside0.mk hX
        have HDM := Aside0.mk hD
        have HB3 := Aside0.mk hB
        clear q2 q3 q4 q5 hK hX hD hB hno hys HQ2
        gi_wp2
        rw [roundsIn_succ]
        gi_wp2
        have hk := ((KeepsOthers.setCell V3 ⟨w.heap.size + 1 + 1, 0, none⟩ (.int .i64 (-1))).trans (KeepsOthers.setCell _ ⟨w.heap.size + 1 + 1 + 1, 0, none⟩ (.int .i64 3))).same D2 _ HK2.out rfl
        have hr : ∀ r, some D2 = some r → ∃ o : Obj, ((V3.setCell ⟨w.heap.size + 1 + 1, 0, none⟩ (.int .i64 (-1))).setCell ⟨w.heap.size + 1 + 1 + 1, 0, none⟩ (.int .i64 3)).heap[r]? = some o ∧ o.isCells = false := fun r e => by cases e; exact ⟨_, hk, rfl⟩
        have e4 := blk_own49 ((Below.heap_setCell _ _ _ _ (by dsimp only; omega)).trans (blk_put (cs := #[.int .i64 0]) Q4.out 0 (.int .i64 (-1)) rfl)) (grownBy_putObj' _ D2 (.deferred none)) hr
        have e5 := blk_own49 (blk_put (cs := #[.int .i64 0]) ((Below.heap_setCell _ _ _ _ (by dsimp only; omega)).trans Q5.out) 0 (.int .i64 3) rfl) (grownBy_putObj' _ D2 (.deferred none)) hr
        have hb1 := ((HB3.out.setCell (p := ⟨w.heap.size + 1 + 1, 0, none⟩) (by dsimp only; omega) (.int .i64 (-1))).setCell (p := ⟨w.heap.size + 1 + 1 + 1, 0, none⟩) (by dsimp only; omega) (.int .i64 3)).trans (belowK_b (w := w) (Nat.le_refl _) ((V3.setCell ⟨w.heap.size + 1 + 1, 0, none⟩ (.int .i64 (-1))).setCell ⟨w.heap.size + 1 + 1 + 1, 0, none⟩ (.int .i64 3)) D2 _ (.deferred none) (by have h1 := HDM.out; rw [HS2.out] at h1; have h2 := HB2.out.size; omega) hk rfl rfl)
        have hd1 : D1 ≠ D2 := by have h1 := HDM.out; rw [HS2.out] at h1; have h2 := HD1.out; omega
        have hk1 : (((V3.setCell ⟨w.heap.size + 1 + 1, 0, none⟩ (.int .i64 (-1))).setCell ⟨w.heap.size + 1 + 1 + 1, 0, none⟩ (.int .i64 3)).putObj D2 (.deferred none)).heap[D1]? = some (.deferred (some [])) := (World.putObj_heap_other hd1).trans (((KeepsOthers.setCell V3 ⟨w.heap.size + 1 + 1, 0, none⟩ (.int .i64 (-1))).trans (KeepsOthers.setCell _ ⟨w.heap.size + 1 + 1 + 1, 0, none⟩ (.int .i64 3))).same D1 _ HX1.out rfl)
        have hr1 : ∀ r, some D1 = some r → ∃ o : Obj, (((V3.setCell ⟨w.heap.size + 1 + 1, 0, none⟩ (.int .i64 (-1))).setCell ⟨w.heap.size + 1 + 1 + 1, 0, none⟩ (.int .i64 3)).putObj D2 (.deferred none)).heap[r]? = some o ∧ o.isCells = false := fun r e => by cases e; exact ⟨_, hk1, rfl⟩
        have e41 := blk_own49 e4 (grownBy_putObj' _ D1 (.deferred none)) hr1
        have e51 := blk_own49 e5 (grownBy_putObj' _ D1 (.deferred none)) hr1
        have hb2 := hb1.trans (belowK_b (w := w) (Nat.le_refl _) _ D1 _ (.deferred none) (by have h1 := HDL.out; rw [HS1.out] at h1; have h2 := HB1.out.size; omega) hk1 rfl rfl)
        refine ⟨by simp, .inl ⟨_, _, rfl, run_takeDeferred hk, ⟨by simp, .inl ⟨_, _, rfl, run_takeDeferred hk1, ?_⟩⟩⟩⟩
        exact ⟨_, results_find49 _ _ _ _ _ _ rfl rfl e41 e51, by rw [E0.out], hb2⟩


theorem fnd_at49 (l : List S49) (h : Int) : ((fnd S49.f0 S49.f1 l h).2 = 0 ∧ ∃ i : Nat, i < l.length ∧ (fnd S49.f0 S49.f1 l h).1 = (i : Int)) ∨ (fnd S49.f0 S49.f1 l h).2 ≠ 0 := by
  have hlt : ∀ s i, fdIn S49.f0 S49.f1 l s h = some i → i < l.length := fun s i e => by
    have := List.mem_of_find?_eq_some e
    simpa using this
  by_cases hz : h = 0
  · right; unfold fnd; rw [if_pos hz]; decide
  · cases h1 : fdIn S49.f0 S49.f1 l 1 h with
    | some i => left; rw [fnd_a49 hz h1]; exact ⟨rfl, i, hlt _ _ h1, rfl⟩
    | none =>
      cases h2 : fdIn S49.f0 S49.f1 l 2 h with
      | some i => left; rw [fnd_b49 hz h1 h2]; exact ⟨rfl, i, hlt _ _ h2, rfl⟩
      | none => right; rw [fnd_c49 hz h1 h2]; decide
set_option maxRecDepth 100000 in
set_option maxHeartbeats 4000000 in
theorem found49_c (fd : Nat) (caps : Array Value) (heg : ∀ args w, (callFunc fd args).run Try.prog w = .ok (.enter fd args) w) (P0 : Nat → Prop) (A : Option Addr) (c : Nat) (xs : List S49) (last h : Int) (hbig : xs.length ≤ 1000000) (y : Nat → S49) (w : World) (hV : Kd.V k49 49 w w.heap.size (fun k => P0 k) (.slice A xs.length c) xs)
    (hdo : ∀ wT : World, Below w.heap.size w wT → ∀ i, i < xs.length → ∀ (W : World) (g cap : Nat), Below wT.heap.size wT W → wT.heap.size ≤ g → Kd.R k49 49 W wT.heap.size (fun k => wT.heap.size ≤ k) (.slice (some ⟨g, 0, none⟩) xs.length cap) xs →
      Calls Try.prog fd (#[.pointer (some ⟨g, i * 3, none⟩)] ++ caps) W fun e W' => (∃ v, e = .returned v) ∧ Kd.R k49 49 W' wT.heap.size (fun k => wT.heap.size ≤ k) (.slice (some ⟨g, 0, none⟩) xs.length cap) (xs.set i (y i)) ∧ KeepBut W W' g none ∧ Below wT.heap.size W W') :
    Calls Try.prog 39 #[.agg #[.slice A xs.length c, .int .i64 last], .int .i64 h, .func (.func fd) #[] caps] w fun e w' => ∃ A' c', e = .returned (.tuple #[.agg #[.slice A' xs.length c', .int .i64 last], .int .i64 (fnd S49.f0 S49.f1 xs h).2]) ∧ Kd.V k49 49 w' w.heap.size (fun k => P0 k ∨ w.heap.size ≤ k) (.slice A' xs.length c') (if (fnd S49.f0 S49.f1 xs h).2 = 0 then xs.set (fnd S49.f0 S49.f1 xs h).1.toNat (y (fnd S49.f0 S49.f1 xs h).1.toNat) else xs) ∧ Below w.heap.size w w' := by
  have HV := Aside0.mk hV
  have HC := Aside0.mk (Kd.V_reads' hV).2.2
  have HD := Aside0.mk hdo
  have HBIG := Aside0.mk hbig
  have HB0 := Aside0.mk (((Below.refl w.heap.size w).alloc (Nat.le_refl _) (.cells #[.slice A xs.length c, .int .i64 last] 24)).alloc (by simp) (.cells #[.slice none 0 0, .int .i64 0] 24))
  have HK0 := Aside0.mk (show ((w.alloc (.cells #[.slice A xs.length c, .int .i64 last] 24)).alloc (.cells #[.slice none 0 0, .int .i64 0] 24)).heap[w.heap.size]? = some (.cells #[.slice A xs.length c, .int .i64 last] 24 (0, 0)) from blk_alloc (blk_new w _) _)
  have HK1 := Aside0.mk (show ((w.alloc (.cells #[.slice A xs.length c, .int .i64 last] 24)).alloc (.cells #[.slice none 0 0, .int .i64 0] 24)).heap[w.heap.size + 1]? = some (.cells #[.slice none 0 0, .int .i64 0] 24 (0, 0)) by have h := blk_new (w.alloc (.cells #[.slice A xs.length c, .int .i64 last] 24)) (.cells #[.slice none 0 0, .int .i64 0] 24); rw [World.size_alloc] at h; exact h)
  clear hV hdo hbig
  obtain ⟨r1, hr1⟩ : ∃ r, r = (fnd S49.f0 S49.f1 xs h).1 := ⟨_, rfl⟩
  obtain ⟨r2, hr2⟩ : ∃ r, r = (fnd S49.f0 S49.f1 xs h).2 := ⟨_, rfl⟩
  have hat := fnd_at49 xs h
  rw [← hr1, ← hr2] at hat ⊢
  have HR1 := Aside0.mk hr1
  have HR2 := Aside0.mk hr2
  clear hr1 hr2
  rcases hat with ⟨rfl, i, hi, rfl⟩ | hne
  · go_enter Try.func39, Try.ntmps39
    go_wp2_with (first | (go_at_call 21; refine (findw49 A c xs last h HBIG.out _ (Kd.C_below HC.out HB0.out)).mono ?_; rintro e w1 ⟨rfl, hb⟩; rw [← HR1.out, ← HR2.out]; have BK0 := Aside0.mk (blk_below HK0.out hb); have BK1 := Aside0.mk (blk_below HK1.out hb); have HB1 := Aside0.mk (HB0.out.trans (hb.mono (Nat.le_trans (Nat.le_add_right _ 2) (by simp)))); have c00 := (blk_cell BK0.out 0).trans rfl; have c01 := (blk_cell BK0.out 1).trans rfl; clear hb) | (go_at_call 36; refine (turn49_c fd caps heg A c xs last i hi (y i) _ HBIG.out (Kd.C_below HC.out HB1.out) (fun W g cap => HD.out _ HB1.out i hi W g cap)).mono ?_; rintro e w2 ⟨g, cap, rfl, hR, hb⟩; have R2 := Aside0.mk (blk_below BK1.out hb); have HRR := Aside0.mk hR; have HB2 := Aside0.mk (HB1.out.trans (hb.mono HB1.out.size)); have HS1 := Aside0.mk HB1.out.size; have d0 := (blk_cell R2.out 0).trans rfl; have d1 := (blk_cell R2.out 1).trans rfl; have df0 := blk_frozen R2.out 0; have df1 := blk_frozen R2.out 1; clear hR hb))
    have hT : ∀ q, q ∈ 49 :: k49.E → q ≠ 24 := fun q hq => by have h0 : k49.E = [] := rfl; rw [h0] at hq; simp at hq; omega
    have b0 := blk_put (cs := #[.slice none 0 0, .int .i64 0]) (cs' := #[.slice (some ⟨g, 0, none⟩) xs.length cap, .int .i64 0]) R2.out 0 (.slice (some ⟨g, 0, none⟩) xs.length cap) rfl
    have b1 := blk_put (cs := #[.slice (some ⟨g, 0, none⟩) xs.length cap, .int .i64 0]) (cs' := #[.slice (some ⟨g, 0, none⟩) xs.length cap, .int .i64 last]) b0 1 (.int .i64 last) rfl
    refine bodyPost_ret (results_ct rfl _ _ (w.heap.size + 1) 24 #[.slice (some ⟨g, 0, none⟩) xs.length cap, .int .i64 last] (0, 0) _ rfl b1 Try.underlying24 rfl (by kernel_rfl)) rfl ?_
    have a2 := Kd.R_set (Kd.R_set HRR.out R2.out hT 0 (.slice (some ⟨g, 0, none⟩) xs.length cap)) b0 hT 1 (.int .i64 last)
    exact ⟨_, _, rfl, Kd.R_V (Kd.R_mono a2 (fun k hk => .inr (Nat.le_trans HS1.out hk))), (HB2.out.setCell (p := ⟨w.heap.size + 1, 0, none⟩) (by simp) _).setCell (p := ⟨w.heap.size + 1, 1, none⟩) (by simp) _⟩
  · have hnb : decide (r2 = 0) = false := decide_eq_false hne
    have hnc : (r2 == 0) = false := by simpa using hne
    rw [if_neg hne]
    go_enter Try.func39, Try.ntmps39
    go_wp2_with (go_at_call 21; refine (findw49 A c xs last h HBIG.out _ (Kd.C_below HC.out HB0.out)).mono ?_; rintro e w1 ⟨rfl, hb⟩; rw [← HR1.out, ← HR2.out]; have BK0 := Aside0.mk (blk_below HK0.out hb); have BK1 := Aside0.mk (blk_below HK1.out hb); have HB1 := Aside0.mk (HB0.out.trans (hb.mono (Nat.le_trans (Nat.le_add_right _ 2) (by simp)))); have c00 := (blk_cell BK0.out 0).trans rfl; have c01 := (blk_cell BK0.out 1).trans rfl; clear hb; have d0 := (blk_cell BK1.out 0).trans rfl; have d1 := (blk_cell BK1.out 1).trans rfl; have df0 := blk_frozen BK1.out 0; have df1 := blk_frozen BK1.out 1)
    have b0 := blk_put (cs := #[.slice none 0 0, .int .i64 0]) (cs' := #[.slice A xs.length c, .int .i64 0]) BK1.out 0 (.slice A xs.length c) rfl
    have b1 := blk_put (cs := #[.slice A xs.length c, .int .i64 0]) (cs' := #[.slice A xs.length c, .int .i64 last]) b0 1 (.int .i64 last) rfl
    refine bodyPost_ret (results_ct rfl _ _ (w.heap.size + 1) 24 #[.slice A xs.length c, .int .i64 last] (0, 0) _ rfl b1 Try.underlying24 rfl (by kernel_rfl)) rfl ?_
    have hbf := (HB1.out.setCell (p := ⟨w.heap.size + 1, 0, none⟩) (by simp) (.slice A xs.length c)).setCell (p := ⟨w.heap.size + 1, 1, none⟩) (by simp) (.int .i64 last)
    exact ⟨_, _, rfl, Kd.V_mono (Kd.V_below HV.out hbf) (fun k hk => .inl hk), hbf⟩

set_option maxRecDepth 100000 in
set_option maxHeartbeats 4000000 in
theorem setw49 (P0 : Nat → Prop) (A : Option Addr) (c : Nat) (xs : List S49) (last h : Int) (v : Int) (hbig : xs.length ≤ 1000000) (w : World) (hV : Kd.V k49 49 w w.heap.size (fun k => P0 k) (.slice A xs.length c) xs) :
    Calls Try.prog 26 #[.agg #[.slice A xs.length c, .int .i64 last], .int .i64 h, .int .i64 v] w fun e w' => ∃ A' c', e = .returned (.tuple #[.agg #[.slice A' xs.length c', .int .i64 last], .int .i64 (fnd S49.f0 S49.f1 xs h).2]) ∧ Kd.V k49 49 w' w.heap.size (fun k => P0 k ∨ w.heap.size ≤ k) (.slice A' xs.length c') (if (fnd S49.f0 S49.f1 xs h).2 = 0 then xs.set (fnd S49.f0 S49.f1 xs h).1.toNat ⟨(xs.getD (fnd S49.f0 S49.f1 xs h).1.toNat z49).f0, (xs.getD (fnd S49.f0 S49.f1 xs h).1.toNat z49).f1, v⟩ else xs) ∧ Below w.heap.size w w' := by
  obtain ⟨rr, hrr⟩ : ∃ rr : List S49, rr = (if (fnd S49.f0 S49.f1 xs h).2 = 0 then xs.set (fnd S49.f0 S49.f1 xs h).1.toNat ⟨(xs.getD (fnd S49.f0 S49.f1 xs h).1.toNat z49).f0, (xs.getD (fnd S49.f0 S49.f1 xs h).1.toNat z49).f1, v⟩ else xs) := ⟨_, rfl⟩
  obtain ⟨r2, hr2⟩ : ∃ r2 : Int, r2 = (fnd S49.f0 S49.f1 xs h).2 := ⟨_, rfl⟩
  rw [← hrr, ← hr2]
  obtain ⟨W0, hW0⟩ : ∃ W0, ((w.alloc (.cells #[.slice A xs.length c, .int .i64 last] 24)).alloc (.cells #[.int .i64 v] 3)).alloc (.cells #[.slice none 0 0, .int .i64 0] 24) = W0 := ⟨_, rfl⟩
  have HB0 := Aside0.mk (show Below w.heap.size w W0 by rw [← hW0]; exact (((Below.refl w.heap.size w).alloc (Nat.le_refl _) _).alloc (by simp) _).alloc (by simp; omega) _)
  have HZ := Aside0.mk (show W0.heap.size = w.heap.size + 1 + 1 + 1 by rw [← hW0]; simp)
  have b3 : W0.heap[w.heap.size + 1]? = some (.cells #[.int .i64 v] 3 (0, 0)) := by rw [← hW0]; refine blk_alloc ?_ _; have h := blk_new (w.alloc (.cells #[.slice A xs.length c, .int .i64 last] 24)) (.cells #[.int .i64 v] 3); rw [World.size_alloc] at h; exact h
  have B6 := Aside0.mk (show W0.heap[w.heap.size + 1 + 1]? = some (.cells #[.slice none 0 0, .int .i64 0] 24 (0, 0)) by rw [← hW0]; have h := blk_new ((w.alloc (.cells #[.slice A xs.length c, .int .i64 last] 24)).alloc (.cells #[.int .i64 v] 3)) (.cells #[.slice none 0 0, .int .i64 0] 24); rw [World.size_alloc, World.size_alloc] at h; exact h)
  have hv : W0.cell? ⟨w.heap.size + 1, 0, none⟩ = some (.int .i64 v) := (blk_cell b3 0).trans rfl
  have hlt := blk_lt b3
  have ht := (found49_c 47 #[.pointer (some ⟨w.heap.size + 1, 0, none⟩)] (enters_of Try.func47 (by kernel_rfl) rfl) (fun k => P0 k ∧ k < w.heap.size) A c xs last h hbig (fun i => ⟨(xs.getD i z49).f0, (xs.getD i z49).f1, v⟩) W0 (Kd.V_map (Kd.V_below (Kd.V_bound hV) HB0.out) (fun _ hf => hf))
    (fun wT hb i hi W g cap hB hg hR => set149_do wT (w.heap.size + 1) (Nat.lt_of_lt_of_le hlt hb.size) v ((hb.cell (p := ⟨w.heap.size + 1, 0, none⟩) hlt).trans hv) xs i hi W g cap hB hg hR))
  rw [← hrr, ← hr2] at ht
  have HT := Aside0.mk ht
  have HW := Aside0.mk hW0
  clear ht hrr hr2
  clear hV b3 hv hlt hW0
  go_enter Try.func26, Try.ntmps26
  go_wp2_with (go_at_call 39; rw [HW.out]; refine HT.out.mono ?_; rintro e w1 ⟨A', c', rfl, hV1, hb⟩; have R6 := Aside0.mk (blk_below B6.out hb); have HV1 := Aside0.mk hV1; have HB1 := Aside0.mk (HB0.out.trans (hb.mono HB0.out.size)); have d0 := (blk_cell R6.out 0).trans rfl; have d1 := (blk_cell R6.out 1).trans rfl; have df0 := blk_frozen R6.out 0; have df1 := blk_frozen R6.out 1; clear hV1 hb)
  have b0 := blk_put (cs := #[.slice none 0 0, .int .i64 0]) (cs' := #[.slice A' xs.length c', .int .i64 0]) R6.out 0 (.slice A' xs.length c') rfl
  have b1 := blk_put (cs := #[.slice A' xs.length c', .int .i64 0]) (cs' := #[.slice A' xs.length c', .int .i64 last]) b0 1 (.int .i64 last) rfl
  refine bodyPost_ret (results_ct rfl _ _ (w.heap.size + 1 + 1) 24 #[.slice A' xs.length c', .int .i64 last] (0, 0) _ rfl b1 Try.underlying24 rfl (by kernel_rfl)) rfl ?_
  have hbf := (HB1.out.setCell (p := ⟨w.heap.size + 1 + 1, 0, none⟩) (by dsimp only; omega) (.slice A' xs.length c')).setCell (p := ⟨w.heap.size + 1 + 1, 1, none⟩) (by dsimp only; omega) (.int .i64 last)
  have hz := HZ.out
  have hv1 := Kd.V_far (p := ⟨w.heap.size + 1 + 1, 1, none⟩) (Kd.V_far (p := ⟨w.heap.size + 1 + 1, 0, none⟩) HV1.out (fun k hk => by dsimp only; rcases hk with hk | hk <;> omega) (.slice A' xs.length c')) (fun k hk => by dsimp only; rcases hk with hk | hk <;> omega) (.int .i64 last)
  exact ⟨_, _, rfl, Kd.V_map (Kd.V_mono hv1 (fun k hk => by rcases hk with hk | hk; exact .inl hk.1; exact .inr (by omega))) (fun _ hf => hf), hbf⟩

set_option maxRecDepth 100000 in
set_option maxHeartbeats 4000000 in
/-- What Kill does to its cell. -/
theorem kill149_do (w : World) (xs : List S49) (i : Nat) (hi : i < xs.length) (W : World) (g cap : Nat) (hB : Below w.heap.size w W) (hg : w.heap.size ≤ g) (hR : Kd.R k49 49 W w.heap.size (fun k => w.heap.size ≤ k) (.slice (some ⟨g, 0, none⟩) xs.length cap) xs) :
    Calls Try.prog 42 (#[.pointer (some ⟨g, i * 3, none⟩)] ++ #[]) W fun e W' => (∃ v, e = .returned v) ∧ Kd.R k49 49 W' w.heap.size (fun k => w.heap.size ≤ k) (.slice (some ⟨g, 0, none⟩) xs.length cap) (xs.set i ⟨2, (xs.getD i z49).f1, (xs.getD i z49).f2⟩) ∧ KeepBut W W' g none ∧ Below w.heap.size W W' := by
  obtain ⟨c0, c1, c2, f0, f1, f2⟩ := cells49 hR i hi
  have HR := Aside0.mk hR
  clear hR hB
  go_enter Try.func42, Try.ntmps42
  go_wp2
  go_end0
  exact ⟨⟨_, rfl⟩, put49 HR.out i hi ⟨2, (xs.getD i z49).f1, (xs.getD i z49).f2⟩ 0 _ (by decide) rfl, (KeepBut.refl W g none).set_ _ _, (Below.refl _ W).setCell hg _⟩
theorem put349 {W : World} {base g cap : Nat} {ok : Nat → Prop} {xs : List S49} (h : Kd.R k49 49 W base ok (.slice (some ⟨g, 0, none⟩) xs.length cap) xs) (i : Nat) (hi : i < xs.length) (y : S49) :
    Kd.R k49 49 (((W.setCell ⟨g, i * 3, none⟩ (.int .i64 y.f0)).setCell ⟨g, i * 3 + 1, none⟩ (.int .i64 y.f1)).setCell ⟨g, i * 3 + 2, none⟩ (.int .i64 y.f2)) base ok (.slice (some ⟨g, 0, none⟩) xs.length cap) (xs.set i y) := by
  have h1 := put249 h i hi ⟨y.f0, (xs.getD i z49).f1, (xs.getD i z49).f2⟩ ⟨y.f0, y.f1, (xs.getD i z49).f2⟩ 0 1 _ _ (by decide) (by decide) rfl rfl
  have hl : (xs.set i ⟨y.f0, y.f1, (xs.getD i z49).f2⟩).length = xs.length := by simp
  rw [← hl] at h1
  have h2 := put49 h1 i (by omega) y 2 (.int .i64 y.f2) (by decide) (by rw [setD49 xs i hi _]; rfl)
  rw [hl, List.set_set] at h2
  exact h2
theorem keep_alloc49 {W W1 : World} {g : Nat} (h : KeepBut W W1 g none) (o : Obj) : KeepBut W (W1.alloc o) g none := h.trans (KeepBut.of_below ((Below.refl _ _).alloc (Nat.le_refl _) o) g none) (.inl rfl)
set_option maxRecDepth 100000 in
set_option maxHeartbeats 4000000 in
/-- What Give does to its cell. -/
theorem give149_do (w : World) (bs : Nat) (hbs : bs < w.heap.size) (last : Int) (hl : w.cell? ⟨bs, 1, none⟩ = some (.int .i64 last)) (xs : List S49) (i : Nat) (hi : i < xs.length) (W : World) (g cap : Nat) (hB : Below w.heap.size w W) (hg : w.heap.size ≤ g) (hgW : g < W.heap.size) (hR : Kd.R k49 49 W w.heap.size (fun k => w.heap.size ≤ k) (.slice (some ⟨g, 0, none⟩) xs.length cap) xs) :
    Calls Try.prog 40 (#[.pointer (some ⟨g, i * 3, none⟩)] ++ #[.pointer (some ⟨bs, 0, none⟩)]) W fun e W' => (∃ v, e = .returned v) ∧ Kd.R k49 49 W' w.heap.size (fun k => w.heap.size ≤ k) (.slice (some ⟨g, 0, none⟩) xs.length cap) (xs.set i (giv last (xs.getD i z49))) ∧ KeepBut W W' g none ∧ Below w.heap.size W W' := by
  obtain ⟨c0, c1, c2, f0, f1, f2⟩ := cells49 hR i hi
  obtain ⟨x, hx⟩ : ∃ x, x = xs.getD i z49 := ⟨_, rfl⟩
  rw [← hx] at c0 c1 c2 ⊢
  have hl' : W.cell? ⟨bs, 1, none⟩ = some (.int .i64 last) := (hB.cell (p := ⟨bs, 1, none⟩) hbs).trans hl
  have HR := Aside0.mk hR
  have hbW : bs < W.heap.size := Nat.lt_of_lt_of_le hbs hB.size
  have HX := Aside0.mk hx
  clear hR hB hl hx
  cases hb : decide (last ≤ x.f1) with
  | true =>
    go_enter Try.func40, Try.ntmps40
    go_wp2
    go_region
    all_goals (go_wp2; go_region; go_wp2; go_region; go_wp2)
    all_goals
      go_end0
      refine ⟨⟨_, rfl⟩, ?_, keep_alloc49 (keep_alloc49 ((((KeepBut.refl W g none).set_ _ _).set_ _ _).set_ _ _) _) _, by repeat (first | exact (((Below.refl _ W).setCell hg _).setCell hg _).setCell hg _ | apply below_drew | refine Below.alloc ?_ ?_ _ | (simp; omega))⟩
      have hy : giv last x = ⟨3, x.f1, 0⟩ := by unfold giv; rw [if_pos (of_decide_eq_true hb)]
      rw [hy]
      exact Kd.R_drew (Kd.R_drew (Kd.R_drew (Kd.R_alloc (Kd.R_alloc (put349 HR.out i hi ⟨3, x.f1, 0⟩) _) _)))
  | false =>
    go_enter Try.func40, Try.ntmps40
    go_wp2
    go_region
    all_goals (go_wp2; go_region; go_wp2)
    all_goals
      go_end0
      refine ⟨⟨_, rfl⟩, ?_, keep_alloc49 (keep_alloc49 ((((KeepBut.refl W g none).set_ _ _).set_ _ _).set_ _ _) _) _, by repeat (first | exact (((Below.refl _ W).setCell hg _).setCell hg _).setCell hg _ | apply below_drew | refine Below.alloc ?_ ?_ _ | (simp; omega))⟩
      have hy : giv last x = ⟨0, wrap64 (x.f1 + 1), 0⟩ := by unfold giv; rw [if_neg (of_decide_eq_false hb)]
      rw [hy]
      exact Kd.R_drew (Kd.R_drew (Kd.R_alloc (Kd.R_alloc (put349 HR.out i hi ⟨0, wrap64 (x.f1 + 1), 0⟩) _) _))

set_option maxRecDepth 100000 in
set_option maxHeartbeats 4000000 in
theorem givew49 (P0 : Nat → Prop) (A : Option Addr) (c : Nat) (xs : List S49) (last h : Int) (hbig : xs.length ≤ 1000000) (w : World) (hV : Kd.V k49 49 w w.heap.size (fun k => P0 k) (.slice A xs.length c) xs) :
    Calls Try.prog 17 #[.agg #[.slice A xs.length c, .int .i64 last], .int .i64 h] w fun e w' => ∃ A' c', e = .returned (.tuple #[.agg #[.slice A' xs.length c', .int .i64 last], .int .i64 (fnd S49.f0 S49.f1 xs h).2]) ∧ Kd.V k49 49 w' w.heap.size (fun k => P0 k ∨ w.heap.size ≤ k) (.slice A' xs.length c') (if (fnd S49.f0 S49.f1 xs h).2 = 0 then xs.set (fnd S49.f0 S49.f1 xs h).1.toNat (giv last (xs.getD (fnd S49.f0 S49.f1 xs h).1.toNat z49)) else xs) ∧ Below w.heap.size w w' := by
  obtain ⟨rr, hrr⟩ : ∃ rr : List S49, rr = (if (fnd S49.f0 S49.f1 xs h).2 = 0 then xs.set (fnd S49.f0 S49.f1 xs h).1.toNat (giv last (xs.getD (fnd S49.f0 S49.f1 xs h).1.toNat z49)) else xs) := ⟨_, rfl⟩
  obtain ⟨r2, hr2⟩ : ∃ r2 : Int, r2 = (fnd S49.f0 S49.f1 xs h).2 := ⟨_, rfl⟩
  rw [← hrr, ← hr2]
  obtain ⟨W0, hW0⟩ : ∃ W0, (w.alloc (.cells #[.slice A xs.length c, .int .i64 last] 24)).alloc (.cells #[.slice none 0 0, .int .i64 0] 24) = W0 := ⟨_, rfl⟩
  have HB0 := Aside0.mk (show Below w.heap.size w W0 by rw [← hW0]; exact ((Below.refl w.heap.size w).alloc (Nat.le_refl _) _).alloc (by simp) _)
  have HZ := Aside0.mk (show W0.heap.size = w.heap.size + 1 + 1 by rw [← hW0]; simp)
  have b3 : W0.heap[w.heap.size]? = some (.cells #[.slice A xs.length c, .int .i64 last] 24 (0, 0)) := by rw [← hW0]; exact blk_alloc (blk_new w _) _
  have B6 := Aside0.mk (show W0.heap[w.heap.size + 1]? = some (.cells #[.slice none 0 0, .int .i64 0] 24 (0, 0)) by rw [← hW0]; have h := blk_new (w.alloc (.cells #[.slice A xs.length c, .int .i64 last] 24)) (.cells #[.slice none 0 0, .int .i64 0] 24); rw [World.size_alloc] at h; exact h)
  have hv : W0.cell? ⟨w.heap.size, 1, none⟩ = some (.int .i64 last) := (blk_cell b3 1).trans rfl
  have hlt := blk_lt b3
  have ht := (found49_c 40 #[.pointer (some ⟨w.heap.size, 0, none⟩)] (enters_of Try.func40 (by kernel_rfl) rfl) (fun k => P0 k ∧ k < w.heap.size) A c xs last h hbig (fun i => giv last (xs.getD i z49)) W0 (Kd.V_map (Kd.V_below (Kd.V_bound hV) HB0.out) (fun _ hf => hf))
    (fun wT hb i hi W g cap hB hg hR => give149_do wT w.heap.size (Nat.lt_of_lt_of_le hlt hb.size) last ((hb.cell (p := ⟨w.heap.size, 1, none⟩) hlt).trans hv) xs i hi W g cap hB hg (Kd.R_lt hR g (by simp [Value.ownBlock])) hR))
  rw [← hrr, ← hr2] at ht
  have HT := Aside0.mk ht
  have HW := Aside0.mk hW0
  clear ht hrr hr2
  clear hV b3 hv hlt hW0
  go_enter Try.func17, Try.ntmps17
  go_wp2_with (go_at_call 39; rw [HW.out]; refine HT.out.mono ?_; rintro e w1 ⟨A', c', rfl, hV1, hb⟩; have R6 := Aside0.mk (blk_below B6.out hb); have HV1 := Aside0.mk hV1; have HB1 := Aside0.mk (HB0.out.trans (hb.mono HB0.out.size)); have d0 := (blk_cell R6.out 0).trans rfl; have d1 := (blk_cell R6.out 1).trans rfl; have df0 := blk_frozen R6.out 0; have df1 := blk_frozen R6.out 1; clear hV1 hb)
  have b0 := blk_put (cs := #[.slice none 0 0, .int .i64 0]) (cs' := #[.slice A' xs.length c', .int .i64 0]) R6.out 0 (.slice A' xs.length c') rfl
  have b1 := blk_put (cs := #[.slice A' xs.length c', .int .i64 0]) (cs' := #[.slice A' xs.length c', .int .i64 last]) b0 1 (.int .i64 last) rfl
  refine bodyPost_ret (results_ct rfl _ _ (w.heap.size + 1) 24 #[.slice A' xs.length c', .int .i64 last] (0, 0) _ rfl b1 Try.underlying24 rfl (by kernel_rfl)) rfl ?_
  have hbf := (HB1.out.setCell (p := ⟨w.heap.size + 1, 0, none⟩) (by dsimp only; omega) (.slice A' xs.length c')).setCell (p := ⟨w.heap.size + 1, 1, none⟩) (by dsimp only; omega) (.int .i64 last)
  have hz := HZ.out
  have hv1 := Kd.V_far (p := ⟨w.heap.size + 1, 1, none⟩) (Kd.V_far (p := ⟨w.heap.size + 1, 0, none⟩) HV1.out (fun k hk => by dsimp only; rcases hk with hk | hk <;> omega) (.slice A' xs.length c')) (fun k hk => by dsimp only; rcases hk with hk | hk <;> omega) (.int .i64 last)
  exact ⟨_, _, rfl, Kd.V_map (Kd.V_mono hv1 (fun k hk => by rcases hk with hk | hk; exact .inl hk.1; exact .inr (by omega))) (fun _ hf => hf), hbf⟩

/-- What Get's error is (the stub's name: gerr). -/
theorem gerr_at49 (l : List S49) (h : Int) : gerr l h = 0 → (fnd S49.f0 S49.f1 l h).2 = 0 := fun e => by
  unfold gerr at e
  by_cases c : (fnd S49.f0 S49.f1 l h).2 = 0
  · exact c
  · rw [if_neg c] at e; exact e
set_option maxRecDepth 100000 in
set_option maxHeartbeats 4000000 in
theorem killw49 (P0 : Nat → Prop) (A : Option Addr) (c : Nat) (xs : List S49) (last h : Int) (hbig : xs.length ≤ 1000000) (w : World) (hV : Kd.V k49 49 w w.heap.size (fun k => P0 k) (.slice A xs.length c) xs)
    (hget : ∀ W, Kd.C k49 W A xs.length xs → Calls Try.prog 20 #[.agg #[.slice A xs.length c, .int .i64 last], .int .i64 h] W fun e W' => (∃ r1 : Int, e = .returned (.tuple #[.int .i64 r1, .int .i64 (gerr xs h)])) ∧ Below W.heap.size W W') :
    Calls Try.prog 22 #[.agg #[.slice A xs.length c, .int .i64 last], .int .i64 h] w fun e w' => ∃ A' c', e = .returned (.tuple #[.agg #[.slice A' xs.length c', .int .i64 last], .int .i64 (gerr xs h)]) ∧ Kd.V k49 49 w' w.heap.size (fun k => P0 k ∨ w.heap.size ≤ k) (.slice A' xs.length c') (if gerr xs h = 0 then xs.set (fnd S49.f0 S49.f1 xs h).1.toNat ⟨2, (xs.getD (fnd S49.f0 S49.f1 xs h).1.toNat z49).f1, (xs.getD (fnd S49.f0 S49.f1 xs h).1.toNat z49).f2⟩ else xs) ∧ Below w.heap.size w w' := by
  have hge := gerr_at49 xs h
  have HV0 := Aside0.mk (Kd.V_bound hV)
  have HC := Aside0.mk (Kd.V_reads' hV).2.2
  obtain ⟨W0, hW0⟩ : ∃ W0, (w.alloc (.cells #[.slice A xs.length c, .int .i64 last] 24)).alloc (.cells #[.slice none 0 0, .int .i64 0] 24) = W0 := ⟨_, rfl⟩
  have HB0 := Aside0.mk (show Below w.heap.size w W0 by rw [← hW0]; exact ((Below.refl w.heap.size w).alloc (Nat.le_refl _) _).alloc (by simp) _)
  have HZ := Aside0.mk (show W0.heap.size = w.heap.size + 1 + 1 by rw [← hW0]; simp)
  have B3 := Aside0.mk (show W0.heap[w.heap.size]? = some (.cells #[.slice A xs.length c, .int .i64 last] 24 (0, 0)) by rw [← hW0]; exact blk_alloc (blk_new w _) _)
  have B6 := Aside0.mk (show W0.heap[w.heap.size + 1]? = some (.cells #[.slice none 0 0, .int .i64 0] 24 (0, 0)) by rw [← hW0]; have h := blk_new (w.alloc (.cells #[.slice A xs.length c, .int .i64 last] 24)) (.cells #[.slice none 0 0, .int .i64 0] 24); rw [World.size_alloc] at h; exact h)
  have HG := Aside0.mk hget
  have HW := Aside0.mk hW0
  obtain ⟨r2, hr2⟩ : ∃ r2 : Int, r2 = gerr xs h := ⟨_, rfl⟩
  by_cases hz : gerr xs h = 0
  · have hf := hge hz
    have HR2 := Aside0.mk (hr2.trans hz)
    rw [if_pos hz, hz]
    have HFD := Aside0.mk (fun (W1 : World) (hb : Below W0.heap.size W0 W1) => found49_c 42 #[] (enters_of Try.func42 (by kernel_rfl) rfl) (fun k => P0 k ∧ k < w.heap.size) A c xs last h hbig (fun i => ⟨2, (xs.getD i z49).f1, (xs.getD i z49).f2⟩) W1 (Kd.V_map (Kd.V_below HV0.out (HB0.out.trans (hb.mono HB0.out.size))) (fun _ hf => hf)) (fun wT _ i hi W g cap hB hg hR => kill149_do wT xs i hi W g cap hB hg hR))
    obtain ⟨rr, hrr⟩ : ∃ rr : List S49, rr = xs.set (fnd S49.f0 S49.f1 xs h).1.toNat ⟨2, (xs.getD (fnd S49.f0 S49.f1 xs h).1.toNat z49).f1, (xs.getD (fnd S49.f0 S49.f1 xs h).1.toNat z49).f2⟩ := ⟨_, rfl⟩
    rw [← hrr]
    rw [if_pos hf, hf, ← hrr] at HFD
    have HZZ := Aside0.mk hz
    clear hV hget hW0 hge hz hr2 hf hrr
    go_enter Try.func22, Try.ntmps22
    go_wp2_with (first | (go_at_call 20; rw [HW.out]; refine (HG.out _ (Kd.C_below HC.out HB0.out)).mono ?_; rintro e w1 ⟨⟨r1, rfl⟩, hb⟩; rw [HZZ.out]; have HBB := Aside0.mk hb; have R3 := blk_below B3.out hb; have c0 := (blk_cell R3 0).trans rfl; have c1 := (blk_cell R3 1).trans rfl; clear R3 hb) | (go_at_call 39; refine (HFD.out _ HBB.out).mono ?_; rintro e w2 ⟨A', c', rfl, hV1, hb⟩; have R6 := Aside0.mk (blk_below (blk_below B6.out HBB.out) hb); have HV1 := Aside0.mk hV1; have HS1 := Aside0.mk HBB.out.size; have HB1 := Aside0.mk ((HB0.out.trans (HBB.out.mono HB0.out.size)).trans (hb.mono (Nat.le_trans HB0.out.size HBB.out.size))); have d0 := (blk_cell R6.out 0).trans rfl; have d1 := (blk_cell R6.out 1).trans rfl; have df0 := blk_frozen R6.out 0; have df1 := blk_frozen R6.out 1; clear hV1 hb))
    have b0 := blk_put (cs := #[.slice none 0 0, .int .i64 0]) (cs' := #[.slice A' xs.length c', .int .i64 0]) R6.out 0 (.slice A' xs.length c') rfl
    have b1 := blk_put (cs := #[.slice A' xs.length c', .int .i64 0]) (cs' := #[.slice A' xs.length c', .int .i64 last]) b0 1 (.int .i64 last) rfl
    refine bodyPost_ret (results_ct rfl _ _ (w.heap.size + 1) 24 #[.slice A' xs.length c', .int .i64 last] (0, 0) _ rfl b1 Try.underlying24 rfl (by kernel_rfl)) rfl ?_
    have hbf := (HB1.out.setCell (p := ⟨w.heap.size + 1, 0, none⟩) (by dsimp only; omega) (.slice A' xs.length c')).setCell (p := ⟨w.heap.size + 1, 1, none⟩) (by dsimp only; omega) (.int .i64 last)
    have hz := HZ.out
    have hs := HS1.out
    have hv1 := Kd.V_far (p := ⟨w.heap.size + 1, 1, none⟩) (Kd.V_far (p := ⟨w.heap.size + 1, 0, none⟩) HV1.out (fun k hk => by dsimp only; rcases hk with hk | hk <;> omega) (.slice A' xs.length c')) (fun k hk => by dsimp only; rcases hk with hk | hk <;> omega) (.int .i64 last)
    exact ⟨_, _, rfl, Kd.V_map (Kd.V_mono hv1 (fun k hk => by rcases hk with hk | hk; exact .inl hk.1; exact .inr (by omega))) (fun _ hf => hf), hbf⟩
  · have hnb : decide (r2 = 0) = false := by rw [hr2]; exact decide_eq_false hz
    have hnc : (r2 == 0) = false := by rw [hr2]; simpa using hz
    rw [if_neg hz]
    rw [← hr2] at HG ⊢
    have HVV := Aside0.mk hV
    clear hV hget hW0 hge hz hr2
    go_enter Try.func22, Try.ntmps22
    go_wp2_with (go_at_call 20; rw [HW.out]; refine (HG.out _ (Kd.C_below HC.out HB0.out)).mono ?_; rintro e w1 ⟨⟨r1, rfl⟩, hb⟩; have R3 := blk_below B3.out hb; have R6 := Aside0.mk (blk_below B6.out hb); have c0 := (blk_cell R3 0).trans rfl; have c1 := (blk_cell R3 1).trans rfl; have HB1 := Aside0.mk (HB0.out.trans (hb.mono HB0.out.size)); have d0 := (blk_cell R6.out 0).trans rfl; have d1 := (blk_cell R6.out 1).trans rfl; have df0 := blk_frozen R6.out 0; have df1 := blk_frozen R6.out 1; clear R3 hb)
    have b0 := blk_put (cs := #[.slice none 0 0, .int .i64 0]) (cs' := #[.slice A xs.length c, .int .i64 0]) R6.out 0 (.slice A xs.length c) rfl
    have b1 := blk_put (cs := #[.slice A xs.length c, .int .i64 0]) (cs' := #[.slice A xs.length c, .int .i64 last]) b0 1 (.int .i64 last) rfl
    refine bodyPost_ret (results_ct rfl _ _ (w.heap.size + 1) 24 #[.slice A xs.length c, .int .i64 last] (0, 0) _ rfl b1 Try.underlying24 rfl (by kernel_rfl)) rfl ?_
    have hbf := (HB1.out.setCell (p := ⟨w.heap.size + 1, 0, none⟩) (by dsimp only; omega) (.slice A xs.length c)).setCell (p := ⟨w.heap.size + 1, 1, none⟩) (by dsimp only; omega) (.int .i64 last)
    exact ⟨_, _, rfl, Kd.V_mono (Kd.V_below HVV.out hbf) (fun k hk => .inl hk), hbf⟩

/-- The four counts of the first k cells. -/
def cs4 (xs : List S49) (k : Nat) : Array Value := #[.int .i64 (cst S49.f0 (xs.take k) 0), .int .i64 (cst S49.f0 (xs.take k) 1), .int .i64 (cst S49.f0 (xs.take k) 2), .int .i64 (cst S49.f0 (xs.take k) 3)]
theorem cst_step (xs : List S49) (k : Nat) (hk : k < xs.length) (s : Int) : cst S49.f0 (xs.take (k + 1)) s = cst S49.f0 (xs.take k) s + (if (xs.getD k z49).f0 = s then 1 else 0) := by
  have e : xs.take (k + 1) = xs.take k ++ [xs.getD k z49] := by rw [List.take_add_one, List.getD_eq_getElem?_getD, List.getElem?_eq_getElem hk]; rfl
  unfold cst
  rw [e, List.filter_append, List.length_append]
  generalize xs.getD k z49 = x
  by_cases c : x.f0 = s
  · simp [c]
  · simp [c]
theorem cst_le (xs : List S49) (k : Nat) (s : Int) : 0 ≤ cst S49.f0 (xs.take k) s ∧ cst S49.f0 (xs.take k) s ≤ (xs.length : Int) := by
  unfold cst
  have h1 := List.length_filter_le (fun c : S49 => c.f0 == s) (xs.take k)
  have h2 := List.length_take_le k xs
  have h3 := List.length_take_le' k xs
  omega
set_option maxRecDepth 100000 in
set_option maxHeartbeats 4000000 in
theorem tallyw (A : Option Addr) (c : Nat) (xs : List S49) (last : Int) (hbig : xs.length ≤ 1000000) (hst : ∀ x ∈ xs, 0 ≤ x.f0 ∧ x.f0 ≤ 3) (w : World) (hC : Kd.C k49 w A xs.length xs) :
    Calls Try.prog 18 #[.agg #[.slice A xs.length c, .int .i64 last]] w fun e w' => e = .returned (.agg (cs4 xs xs.length)) ∧ Below w.heap.size w w' := by
  have HC := Aside0.mk hC
  have HST := Aside0.mk hst
  clear hC hst
  go_enter Try.func18, Try.ntmps18
  go_wp2
  go_loopw [8] (fun i wr => ∃ k : Nat, k ≤ xs.length ∧ i = .int .i64 k ∧ wr.heap[w.heap.size + 1]? = some (.cells (cs4 xs k) 39 (0, 0)) ∧ Below w.heap.size w wr)
    (fun i _ => xs.length - (intOf i).toNat)
  case atStart => exact ⟨0, Nat.zero_le _, rfl, by have h := blk_new (w.alloc (.cells #[.slice A xs.length c, .int .i64 last] 24)) (.cells #[.int .i64 0, .int .i64 0, .int .i64 0, .int .i64 0] 39); rw [World.size_alloc] at h; exact h, ((Below.refl _ w).alloc (Nat.le_refl _) _).alloc (by simp) _⟩
  case round =>
    obtain ⟨k, hk, rfl, hb, hB⟩ := hrel
    by_cases hlt : k < xs.length
    · obtain ⟨ad, e, hcx, hcy, hcz⟩ := at_T49 (Kd.C_below HC.out hB) (k : Int) (by omega) (by omega)
      cases e
      rw [Int.toNat_natCast] at hcx hcy hcz
      have hrd : rd_T49 xs (k : Int) = xs.getD k z49 := by unfold rd_T49; rw [Int.toNat_natCast]
      have hmem : xs.getD k z49 ∈ xs := by rw [List.getD_eq_getElem?_getD, List.getElem?_eq_getElem hlt]; exact List.getElem_mem hlt
      have hr := HST.out _ hmem
      rw [hrd] at hcx hcy hcz
      have h0 := cst_step xs k hlt 0
      have h1 := cst_step xs k hlt 1
      have h2 := cst_step xs k hlt 2
      have h3 := cst_step xs k hlt 3
      have l0 := cst_le xs k 0
      have l1 := cst_le xs k 1
      have l2 := cst_le xs k 2
      have l3 := cst_le xs k 3
      unfold cs4 at hb
      generalize cst S49.f0 (xs.take k) 0 = n0 at *
      generalize cst S49.f0 (xs.take k) 1 = n1 at *
      generalize cst S49.f0 (xs.take k) 2 = n2 at *
      generalize cst S49.f0 (xs.take k) 3 = n3 at *
      generalize xs.getD k z49 = x at *
      have e0 : wr.cell? ⟨w.heap.size + 1, 0, none⟩ = some (.int .i64 n0) := (blk_cell hb 0).trans rfl
      have e1 : wr.cell? ⟨w.heap.size + 1, 1, none⟩ = some (.int .i64 n1) := (blk_cell hb 1).trans rfl
      have e2 : wr.cell? ⟨w.heap.size + 1, 2, none⟩ = some (.int .i64 n2) := (blk_cell hb 2).trans rfl
      have e3 : wr.cell? ⟨w.heap.size + 1, 3, none⟩ = some (.int .i64 n3) := (blk_cell hb 3).trans rfl
      have f0 := blk_frozen hb 0
      have f1 := blk_frozen hb 1
      have f2 := blk_frozen hb 2
      have f3 := blk_frozen hb 3
      have hlb := blk_lt hb
      have w0 : wrap64 (n0 + 1) = n0 + 1 := by unfold wrap64; omega
      have w1 : wrap64 (n1 + 1) = n1 + 1 := by unfold wrap64; omega
      have w2 : wrap64 (n2 + 1) = n2 + 1 := by unfold wrap64; omega
      have w3 : wrap64 (n3 + 1) = n3 + 1 := by unfold wrap64; omega
      have HB := Aside0.mk hB
      have HBL := Aside0.mk hb
      have HK := Aside0.mk (And.intro h0 (And.intro h1 (And.intro h2 h3)))
      obtain ⟨p0, p1, p2⟩ := x
      dsimp only at *
      have hcase : p0 = 0 ∨ p0 = 1 ∨ p0 = 2 ∨ p0 = 3 := by omega
      clear hB hb h0 h1 h2 h3 hmem hrd l0 l1 l2 l3 hr
      rcases hcase with rfl | rfl | rfl | rfl
      · go_wp2
        have hc : cs4 xs (k + 1) = #[.int .i64 (n0 + 1), .int .i64 (n1), .int .i64 (n2), .int .i64 (n3)] := by unfold cs4; rw [HK.out.1, HK.out.2.1, HK.out.2.2.1, HK.out.2.2.2]; simp
        exact ⟨⟨k + 1, by omega, by simp, by rw [hc]; exact blk_alloc (blk_put HBL.out 0 _ rfl) _, Below.alloc (HB.out.setCell (p := ⟨w.heap.size + 1, 0, none⟩) (by simp) _) (by have := HB.out.size; simp; omega) _⟩, by simp [intOf]; omega⟩
      · go_wp2
        have hc : cs4 xs (k + 1) = #[.int .i64 (n0), .int .i64 (n1 + 1), .int .i64 (n2), .int .i64 (n3)] := by unfold cs4; rw [HK.out.1, HK.out.2.1, HK.out.2.2.1, HK.out.2.2.2]; simp
        exact ⟨⟨k + 1, by omega, by simp, by rw [hc]; exact blk_alloc (blk_put HBL.out 1 _ rfl) _, Below.alloc (HB.out.setCell (p := ⟨w.heap.size + 1, 1, none⟩) (by simp) _) (by have := HB.out.size; simp; omega) _⟩, by simp [intOf]; omega⟩
      · go_wp2
        have hc : cs4 xs (k + 1) = #[.int .i64 (n0), .int .i64 (n1), .int .i64 (n2 + 1), .int .i64 (n3)] := by unfold cs4; rw [HK.out.1, HK.out.2.1, HK.out.2.2.1, HK.out.2.2.2]; simp
        exact ⟨⟨k + 1, by omega, by simp, by rw [hc]; exact blk_alloc (blk_put HBL.out 2 _ rfl) _, Below.alloc (HB.out.setCell (p := ⟨w.heap.size + 1, 2, none⟩) (by simp) _) (by have := HB.out.size; simp; omega) _⟩, by simp [intOf]; omega⟩
      · go_wp2
        have hc : cs4 xs (k + 1) = #[.int .i64 (n0), .int .i64 (n1), .int .i64 (n2), .int .i64 (n3 + 1)] := by unfold cs4; rw [HK.out.1, HK.out.2.1, HK.out.2.2.1, HK.out.2.2.2]; simp
        exact ⟨⟨k + 1, by omega, by simp, by rw [hc]; exact blk_alloc (blk_put HBL.out 3 _ rfl) _, Below.alloc (HB.out.setCell (p := ⟨w.heap.size + 1, 3, none⟩) (by simp) _) (by have := HB.out.size; simp; omega) _⟩, by simp [intOf]; omega⟩
    · obtain rfl : k = xs.length := by omega
      unfold cs4 at hb
      have e0 : wr.cell? ⟨w.heap.size + 1, 0, none⟩ = some (.int .i64 (cst S49.f0 (xs.take xs.length) 0)) := (blk_cell hb 0).trans rfl
      have e1 : wr.cell? ⟨w.heap.size + 1, 1, none⟩ = some (.int .i64 (cst S49.f0 (xs.take xs.length) 1)) := (blk_cell hb 1).trans rfl
      have e2 : wr.cell? ⟨w.heap.size + 1, 2, none⟩ = some (.int .i64 (cst S49.f0 (xs.take xs.length) 2)) := (blk_cell hb 2).trans rfl
      have e3 : wr.cell? ⟨w.heap.size + 1, 3, none⟩ = some (.int .i64 (cst S49.f0 (xs.take xs.length) 3)) := (blk_cell hb 3).trans rfl
      have f0 := blk_frozen hb 0
      have f1 := blk_frozen hb 1
      have f2 := blk_frozen hb 2
      have f3 := blk_frozen hb 3
      have HBL := Aside0.mk hb
      have HB := Aside0.mk hB
      clear hb hB
      go_wp2
      have hb := HBL.out
      have hc : cs4 xs xs.length = #[.int .i64 (cst S49.f0 xs 0), .int .i64 (cst S49.f0 xs 1), .int .i64 (cst S49.f0 xs 2), .int .i64 (cst S49.f0 xs 3)] := by unfold cs4; rw [List.take_length]
      rw [List.take_length] at hb
      refine bodyPost_ret (results_cell_row rfl _ _ (w.heap.size + 1) 39 (cs4 xs xs.length) (0, 0) _ rfl (by rw [hc]; exact blk_put (blk_put (blk_put (blk_put hb 0 _ rfl) 1 _ rfl) 2 _ rfl) 3 _ rfl) Try.underlying39 rfl (by kernel_rfl)) rfl ?_
      exact ⟨rfl, (((HB.out.setCell (p := ⟨w.heap.size + 1, 0, none⟩) (by simp) _).setCell (p := ⟨w.heap.size + 1, 1, none⟩) (by simp) _).setCell (p := ⟨w.heap.size + 1, 2, none⟩) (by simp) _).setCell (p := ⟨w.heap.size + 1, 3, none⟩) (by simp) _⟩

end Go.Proofs.Ytacgijcdcodfkaa.MAll
