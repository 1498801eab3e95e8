/- The slab of objects: its rows, as they lie. Conditions: those of each lemma. -/
import Derived.Test.YtkmjboeabmmecaaMAllx0
import Derived.RangeFuncBox
import Derived.RangeFuncNested
import Derived.RangeFuncBound
import Derived.RangeFuncCalls
import Derived.RangeFuncLeaves
import Derived.Shelf.Abstract
import Derived.Shelf.RegionOpen
import Derived.OwnWalkIn
import Derived.TacticsInMore
import Derived.LoopNIn
import Derived.LoopIn
import Derived.RegionTactic
import Derived.WalkSpells
import Derived.Lib.SliceRun
import Derived.Deep.Cut
import Derived.Laws.CopyOwn
namespace Go.Proofs.Ytkmjboeabmmecaa.MAll
open Go.RowKit Go.Proofs.YtkmjboeabmmecaaW.PrintWords Go.Proofs.YtkmjboeabmmecaaW.PrintLast Go.Proofs.YtkmjboeabmmecaaW.PrintMore
attribute [local go_sem] max2_int min2_int max_two min_two max_three min_three max_four min_four
set_option linter.unusedVariables false
set_option linter.unusedSimpArgs false
attribute [local go_sem] Oper.semAt_some
open Go.Shelf Go.Proofs.Ytkmjboeabmmecaa
structure RO where
  ser : Int
  str : Int
  wk : Int
  pr : Int
  sd : Bool
  fa : Option Addr
  fn : Nat
  fc : Nat
structure SR where
  f0 : Int
  f1 : Int
  f2 : RO
def zRO : RO := ⟨0, 0, 0, 0, false, none, 0, 0⟩
def zR : SR := ⟨0, 0, zRO⟩
def kSL : Kd (Option Addr × Nat × Nat) := Kd.scalar (fun x => .slice x.1 x.2.1 x.2.2) (fun _ => rfl)
def kRO : Kd RO := Kd.iso (Kd.pair (Kd.int .i64) (Kd.pair (Kd.int .i64) (Kd.pair (Kd.int .i64) (Kd.pair (Kd.int .i64) (Kd.pair Kd.bool kSL))))) (fun x : RO => (x.ser, x.str, x.wk, x.pr, x.sd, x.fa, x.fn, x.fc))
def kR : Kd SR := Kd.iso (Kd.pair (Kd.int .i64) (Kd.pair (Kd.int .i64) kRO)) (fun x : SR => (x.f0, x.f1, x.f2))
def RO.vs (o : RO) : List Value := [.int .i64 o.ser, .int .i64 o.str, .int .i64 o.wk, .int .i64 o.pr, .bool o.sd, .slice o.fa o.fn o.fc]
theorem kRO_open {w : World} {x : RO} {cs : List Value} (h : kRO.K w x cs) : cs = [.int .i64 x.ser, .int .i64 x.str, .int .i64 x.wk, .int .i64 x.pr, .bool x.sd, .slice x.fa x.fn x.fc] := by
  obtain ⟨_, _, rfl, rfl, ⟨_, _, rfl, rfl, ⟨_, _, rfl, rfl, ⟨_, _, rfl, rfl, ⟨_, _, rfl, rfl, rfl⟩⟩⟩⟩⟩ := h
  exact rfl
theorem kR_open {w : World} {x : SR} {cs : List Value} (h : kR.K w x cs) : cs = [.int .i64 x.f0, .int .i64 x.f1, .int .i64 x.f2.ser, .int .i64 x.f2.str, .int .i64 x.f2.wk, .int .i64 x.f2.pr, .bool x.f2.sd, .slice x.f2.fa x.f2.fn x.f2.fc] := by
  obtain ⟨_, _, rfl, rfl, ⟨_, _, rfl, rfl, s2⟩⟩ := h
  obtain rfl := kRO_open s2
  exact rfl
theorem kR_openM {w : World} {base : Nat} {ok : Nat → Prop} {x : SR} {cs : List Value} (h : kR.M w base ok x cs) : cs = [.int .i64 x.f0, .int .i64 x.f1, .int .i64 x.f2.ser, .int .i64 x.f2.str, .int .i64 x.f2.wk, .int .i64 x.f2.pr, .bool x.f2.sd, .slice x.f2.fa x.f2.fn x.f2.fc] := kR_open (kR.K_of_M h)
theorem kR_mk (w : World) (x : SR) : kR.K w x [.int .i64 x.f0, .int .i64 x.f1, .int .i64 x.f2.ser, .int .i64 x.f2.str, .int .i64 x.f2.wk, .int .i64 x.f2.pr, .bool x.f2.sd, .slice x.f2.fa x.f2.fn x.f2.fc] :=
  ⟨[.int .i64 x.f0], _, rfl, rfl, ⟨[.int .i64 x.f1], _, rfl, rfl, ⟨[.int .i64 x.f2.ser], _, rfl, rfl, ⟨[.int .i64 x.f2.str], _, rfl, rfl, ⟨[.int .i64 x.f2.wk], _, rfl, rfl, ⟨[.int .i64 x.f2.pr], _, rfl, rfl, ⟨[.bool x.f2.sd], [.slice x.f2.fa x.f2.fn x.f2.fc], rfl, rfl, rfl⟩⟩⟩⟩⟩⟩⟩
theorem flatR : Steps.Flat kR := Steps.flat_iso _ (Steps.flat_pair (Steps.flat_int _) (Steps.flat_pair (Steps.flat_int _) (Steps.flat_iso _ (Steps.flat_pair (Steps.flat_int _) (Steps.flat_pair (Steps.flat_int _) (Steps.flat_pair (Steps.flat_int _) (Steps.flat_pair (Steps.flat_int _) (Steps.flat_pair (fun _ _ _ _ _ _ h => h) (fun _ _ _ _ _ _ h => h)))))))))
theorem kR_mkM (w : World) (base : Nat) (ok : Nat → Prop) (x : SR) : kR.M w base ok x [.int .i64 x.f0, .int .i64 x.f1, .int .i64 x.f2.ser, .int .i64 x.f2.str, .int .i64 x.f2.wk, .int .i64 x.f2.pr, .bool x.f2.sd, .slice x.f2.fa x.f2.fn x.f2.fc] := flatR w w base ok x _ (kR_mk w x)
def rd_TR (xs : List SR) (i : Int) : SR := xs.getD i.toNat zR
theorem at_TR {w : World} {A : Option Addr} {n : Nat} {xs : List SR} (h : Kd.C kR w A n xs) (i : Int) (h0 : 0 ≤ i) (h1 : i < n) : ∃ ad, A = some ad ∧ w.cell? (ad.add (i.toNat * 8)) = some (.int .i64 (rd_TR xs i).f0) ∧ w.cell? ⟨(ad.add (i.toNat * 8)).block, (ad.add (i.toNat * 8)).off + 1, none⟩ = some (.int .i64 (rd_TR xs i).f1) ∧
    w.cell? ⟨(ad.add (i.toNat * 8)).block, (ad.add (i.toNat * 8)).off + 2, none⟩ = some (.int .i64 (rd_TR xs i).f2.ser) ∧ w.cell? ⟨(ad.add (i.toNat * 8)).block, (ad.add (i.toNat * 8)).off + 3, none⟩ = some (.int .i64 (rd_TR xs i).f2.str) ∧ w.cell? ⟨(ad.add (i.toNat * 8)).block, (ad.add (i.toNat * 8)).off + 4, none⟩ = some (.int .i64 (rd_TR xs i).f2.wk) ∧ w.cell? ⟨(ad.add (i.toNat * 8)).block, (ad.add (i.toNat * 8)).off + 5, none⟩ = some (.int .i64 (rd_TR xs i).f2.pr) ∧
    w.cell? ⟨(ad.add (i.toNat * 8)).block, (ad.add (i.toNat * 8)).off + 6, none⟩ = some (.bool (rd_TR xs i).f2.sd) ∧ w.cell? ⟨(ad.add (i.toNat * 8)).block, (ad.add (i.toNat * 8)).off + 7, none⟩ = some (.slice (rd_TR xs i).f2.fa (rd_TR xs i).f2.fn (rd_TR xs i).f2.fc) := by
  obtain ⟨ad, c, e, _, hK, hc0⟩ := Kd.C_get h zR i h0 h1
  have hc : ∀ j u, c[j]? = some u → w.cell? (ad.add (i.toNat * 8 + j)) = some u := hc0
  obtain rfl := kR_open hK
  exact ⟨ad, e, hc 0 _ rfl, by rw [← add_field _ _ 1 (by omega)]; exact hc 1 _ rfl, by rw [← add_field _ _ 2 (by omega)]; exact hc 2 _ rfl, by rw [← add_field _ _ 3 (by omega)]; exact hc 3 _ rfl, by rw [← add_field _ _ 4 (by omega)]; exact hc 4 _ rfl, by rw [← add_field _ _ 5 (by omega)]; exact hc 5 _ rfl, by rw [← add_field _ _ 6 (by omega)]; exact hc 6 _ rfl, by rw [← add_field _ _ 7 (by omega)]; exact hc 7 _ rfl⟩
def pk (s g : Int) : Int := if (decide (IntKind.u64.wrap s ≤ IntKind.u64.wrap 23) && decide (IntKind.u64.wrap g ≤ IntKind.u64.wrap 9)) = true then wrap64 (1 + (Go.bits .or .i64 (wrap64 (g * 32)) s)) else 0
def fdIn {α : Type} (st gen : α → Int) (l : List α) (s h : Int) : Option Nat := (List.range l.length).find? fun i => match l[i]? with
  | some c => st c == s && pk (i : Int) (gen c) == h
  | none => false
def fnd {α : Type} (st gen : α → Int) (l : List α) (h : Int) : Int × Int := if h = 0 then (-1, 2) else match fdIn st gen l 1 h with
  | some i => ((i : Int), 0)
  | none => match fdIn st gen l 2 h with
    | some i => ((i : Int), 0)
    | none => (-1, 3)
def frs {α : Type} (st : α → Int) (l : List α) : Option Nat := l.findIdx? fun c => st c == 0
def isS {α : Type} (st : α → Int) (l : List α) (s : Int) (i : Nat) : Bool := match l[i]? with
  | some c => st c == s
  | none => false
def inS {α : Type} (st : α → Int) (l : List α) (s : Int) : List Int := ((List.range l.length).filter (isS st l s)).map fun i : Nat => (i : Int)
def inTo {α : Type} (st : α → Int) (l : List α) (s : Int) (k : Nat) : List Int := ((List.range k).filter (isS st l s)).map fun i : Nat => (i : Int)
theorem isS_at {α : Type} (st : α → Int) (l : List α) (s : Int) (i : Nat) (h : i < l.length) : isS st l s i = (st l[i] == s) := by unfold isS; rw [List.getElem?_eq_getElem h]
theorem inTo_all {α : Type} (st : α → Int) (l : List α) (s : Int) : inTo st l s l.length = inS st l s := rfl
theorem inTo_step {α : Type} (st : α → Int) (l : List α) (s : Int) (k : Nat) (h : k < l.length) : inTo st l s (k + 1) = if (st l[k] == s) = true then inTo st l s k ++ [(k : Int)] else inTo st l s k := by
  unfold inTo
  rw [List.range_succ, List.filter_append, List.map_append, List.filter_cons, isS_at st l s k h]
  by_cases c : (st l[k] == s) = true
  · simp only [c, if_true]; rfl
  · simp only [c]; simp
theorem inTo_len {α : Type} (st : α → Int) (l : List α) (s : Int) (k : Nat) : (inTo st l s k).length ≤ k := by
  unfold inTo
  rw [List.length_map]
  exact Nat.le_trans (List.length_filter_le _ _) (by rw [List.length_range]; exact Nat.le_refl _)
theorem inTo_prefix {α : Type} (st : α → Int) (l : List α) (s : Int) (k : Nat) (h : k ≤ l.length) : inTo st l s k <+: inS st l s := by
  unfold inTo inS
  refine List.IsPrefix.map _ (List.IsPrefix.filter _ ?_)
  have : List.range k = (List.range l.length).take k := by rw [List.take_range, Nat.min_eq_left h]
  rw [this]
  exact List.take_prefix _ _
def KpB (n₀ b : Nat) (W W' : World) : Prop := Below n₀ W W' ∧ W'.heap[b]? = W.heap[b]?
theorem KpB.refl (n₀ b : Nat) (W : World) : KpB n₀ b W W := ⟨Below.refl _ _, rfl⟩
theorem KpB.trans {n₀ b : Nat} {A B C : World} (h : KpB n₀ b A B) (k : KpB n₀ b B C) : KpB n₀ b A C := ⟨h.1.trans k.1, k.2.trans h.2⟩
theorem KpB.alloc {n₀ b : Nat} {W : World} (h : n₀ ≤ W.heap.size) (hb : b < W.heap.size) (o : Obj) : KpB n₀ b W (W.alloc o) := ⟨(Below.refl _ _).alloc h _, Below.heap_alloc W o b hb⟩
theorem KpB.cell {n₀ b : Nat} {W W' : World} (h : KpB n₀ b W W') {v : Value} (hc : W.cell? ⟨b, 0, none⟩ = some v) : W'.cell? ⟨b, 0, none⟩ = some v := (World.cell?_of_block (a := ⟨b, 0, none⟩) h.2).trans hc
theorem kpB_b {w : World} {n₀ b : Nat} (hn : n₀ ≤ w.heap.size) (hb : b < w.heap.size) (W : World) (l : Nat) (o o' : Obj) (hl : w.heap.size ≤ l) (h1 : W.heap[l]? = some o) (h2 : o.isCells = false) (h3 : o.isWalk = false) : KpB n₀ b W (W.putObj l o') :=
  ⟨belowK_b hn W l o o' hl h1 h2 h3, by simp only [World.putObj]; rw [Array.getElem?_setIfInBounds_ne (by omega)]⟩
theorem KpB.set {n₀ b : Nat} {W W' : World} (h : KpB n₀ b W W') {g i : Nat} (hg : n₀ ≤ g) (hb : g ≠ b) (u : Value) : KpB n₀ b W (W'.setCell ⟨g, i, none⟩ u) := ⟨h.1.setCell (p := ⟨g, i, none⟩) hg _, (Below.heap_setCell W' ⟨g, i, none⟩ u b (Ne.symm hb)).trans h.2⟩
theorem blk_drewN_heap (w : World) (n : Nat) : (w.drewN n).heap = w.heap := by
  induction n with
  | zero => rfl
  | succ n ih => exact ih
theorem KpB.drewN {n₀ b : Nat} {W W' : World} (h : KpB n₀ b W W') (m : Nat) : KpB n₀ b W (W'.drewN m) := ⟨pw_below_drewN h.1 m, by rw [blk_drewN_heap]; exact h.2⟩
def fvs {m : Nat} (l : List (Fin m)) : List Int := l.map fun x => ((x.val : Nat) : Int)
theorem fvs_len {m : Nat} (l : List (Fin m)) : (fvs l).length = l.length := List.length_map _
theorem fvs_snoc {m : Nat} {l : List (Fin m)} {k : Nat} (h : k < m) {L : List Int} (e : L = fvs l ++ [(k : Int)]) : fvs (l ++ [(⟨k, h⟩ : Fin m)]) = L := by rw [e]; simp [fvs]
theorem cell_alloc_l {W : World} {a : Addr} {v : Value} (o : Obj) (h : W.cell? a = some v) : (W.alloc o).cell? a = some v := cell_kept h (World.grownBy_alloc W o none) (fun r e => by cases e)
def qbox82 (w : World) (A : Option Addr) (n c : Nat) (last s : Int) : World := (w.alloc (.cells #[.slice A n c, .int .i64 last] 24)).alloc (.cells #[.int .i64 s] 3)
theorem qbox82_size (w : World) (A : Option Addr) (n c : Nat) (last s : Int) : (qbox82 w A n c last s).heap.size = w.heap.size + 1 + 1 := by simp [qbox82]
theorem qbox82_below (w : World) (A : Option Addr) (n c : Nat) (last s : Int) {n₀ : Nat} (h : n₀ ≤ w.heap.size) : Below n₀ w (qbox82 w A n c last s) := ((Below.refl _ w).alloc h _).alloc (by simp; omega) _
theorem qbox82_cells (w : World) (A : Option Addr) (n c : Nat) (last s : Int) : (qbox82 w A n c last s).cell? ⟨w.heap.size, 0, none⟩ = some (.slice A n c) ∧ (qbox82 w A n c last s).cell? ⟨w.heap.size, 1, none⟩ = some (.int .i64 last) ∧ (qbox82 w A n c last s).cell? ⟨w.heap.size + 1, 0, none⟩ = some (.int .i64 s) := by
  have h1 : (qbox82 w A n c last s).heap[w.heap.size]? = some (.cells #[.slice A n c, .int .i64 last] 24 (0, 0)) := blk_alloc (blk_new _ _) _
  have h2 : (qbox82 w A n c last s).heap[w.heap.size + 1]? = some (.cells #[.int .i64 s] 3 (0, 0)) := by
    have h := blk_new (w.alloc (.cells #[.slice A n c, .int .i64 last] 24)) (.cells #[.int .i64 s] 3)
    rw [World.size_alloc] at h
    exact h
  exact ⟨(blk_cell h1 0).trans rfl, (blk_cell h1 1).trans rfl, (blk_cell h2 0).trans rfl⟩
set_option maxHeartbeats 1000000 in
theorem in82_c (A : Option Addr) (len cap : Nat) (last s : Int) (w : World) :
    Calls Try.prog 103 #[.agg #[.slice A len cap, .int .i64 last], .int .i64 s] w fun e w' => e = .returned (.func (.func 130) #[] #[.pointer (some ⟨w.heap.size, 0, none⟩), .pointer (some ⟨w.heap.size + 1, 0, none⟩)]) ∧ w' = qbox82 w A len cap last s := by
  go_enter Try.func103, Try.ntmps103
  go_wp2
  go_ret
  exact ⟨rfl, rfl⟩
set_option maxRecDepth 100000 in
set_option maxHeartbeats 2000000 in
theorem in182_in (F : Fence) (n : Nat) (hf : F.fn 130) (hro : F.round = none) (hn : 1 ≤ n) (l Bq Bk n₀ : Nat) (A : Option Addr) (c : Nat) (xs : List SR) (s : Int) (hbig : xs.length ≤ 1000000) (J Jx : List (Fin xs.length) → World → Prop)
    (W : World) (hn0 : n₀ ≤ W.heap.size) (hJ : AbidesFrom W.heap.size J)
    (hY : ∀ pre (x : Fin xs.length) W, J pre W → pre.length < xs.length → YieldAt F (n - 1) Try.prog l #[.int .i64 (x.val : Int)] W fun e W' =>
      (e = .returned (.bool true) ∧ J (pre ++ [x]) W' ∧ KpB n₀ Bk W W') ∨ (e = .returned (.bool false) ∧ Jx (pre ++ [x]) W'))
    (hBk : Bk < W.heap.size) (hq0 : W.cell? ⟨Bq, 0, none⟩ = some (.slice A xs.length c)) (hk0 : W.cell? ⟨Bk, 0, none⟩ = some (.int .i64 s)) (hC : ∀ W', Below n₀ W W' → Kd.C kR W' A xs.length xs) (h0 : J [] W) :
    CallsIn F n Try.prog 130 #[.func (.yield l) #[] #[], .pointer (some ⟨Bq, 0, none⟩), .pointer (some ⟨Bk, 0, none⟩)] W fun e W' => (∃ v, e = .returned v) ∧
      ((∃ ys, fvs ys = inS SR.f0 xs s ∧ J ys W') ∨ (∃ pre, fvs pre <+: inS SR.f0 xs s ∧ Jx pre W')) := by
  have HC := Aside0.mk hC
  clear hC
  refine callsIn_of_wp Try.func130 rfl hf ?_ hro
  simp only [Try.ntmps130, List.size_toArray, List.length_cons, List.length_nil, Nat.reduceAdd, Nat.reduceSub, Array.replicate_succ, Array.replicate_zero, List.push_toArray, List.append_toArray, List.nil_append, List.cons_append]
  gi_wp2
  gi_loopw [9] (fun i wr => ∃ k : Nat, k ≤ xs.length ∧ i = .int .i64 k ∧ (∃ js : List (Fin xs.length), fvs js = inTo SR.f0 xs s k ∧ J js wr) ∧ KpB n₀ Bk W wr)
    (fun i _ => xs.length - (intOf i).toNat)
  case atStart => exact ⟨0, Nat.zero_le _, rfl, ⟨[], rfl, h0⟩, KpB.refl _ _ _⟩
  case round =>
    obtain ⟨k, hk, rfl, ⟨js, hjs, hJs⟩, hnx⟩ := hrel
    by_cases hlt : k < xs.length
    · obtain ⟨ad, e, hcx, hcy, hc2, hc3, hc4, hc5, hc6, hc7⟩ := at_TR (HC.out wr hnx.1) (k : Int) (by omega) (by omega)
      cases e
      rw [Int.toNat_natCast] at hcx hcy hc2 hc3 hc4 hc5 hc6 hc7
      have hk1 : wr.cell? ⟨Bk, 0, none⟩ = some (.int .i64 s) := hnx.cell hk0
      have hbA : KpB n₀ Bk wr (wr.alloc (.cells #[.int .i64 (rd_TR xs (k : Int)).f0, .int .i64 (rd_TR xs (k : Int)).f1, .int .i64 (rd_TR xs (k : Int)).f2.ser, .int .i64 (rd_TR xs (k : Int)).f2.str, .int .i64 (rd_TR xs (k : Int)).f2.wk, .int .i64 (rd_TR xs (k : Int)).f2.pr, .bool (rd_TR xs (k : Int)).f2.sd, .slice (rd_TR xs (k : Int)).f2.fa (rd_TR xs (k : Int)).f2.fn (rd_TR xs (k : Int)).f2.fc] 82)) := KpB.alloc (Nat.le_trans hn0 hnx.1.size) (Nat.lt_of_lt_of_le hBk hnx.1.size) _
      have hk2 : (wr.alloc (.cells #[.int .i64 (rd_TR xs (k : Int)).f0, .int .i64 (rd_TR xs (k : Int)).f1, .int .i64 (rd_TR xs (k : Int)).f2.ser, .int .i64 (rd_TR xs (k : Int)).f2.str, .int .i64 (rd_TR xs (k : Int)).f2.wk, .int .i64 (rd_TR xs (k : Int)).f2.pr, .bool (rd_TR xs (k : Int)).f2.sd, .slice (rd_TR xs (k : Int)).f2.fa (rd_TR xs (k : Int)).f2.fn (rd_TR xs (k : Int)).f2.fc] 82)).cell? ⟨Bk, 0, none⟩ = some (.int .i64 s) := hbA.cell hk1
      have hJA := hJ _ _ _ none hJs (World.grownBy_alloc wr (.cells #[.int .i64 (rd_TR xs (k : Int)).f0, .int .i64 (rd_TR xs (k : Int)).f1, .int .i64 (rd_TR xs (k : Int)).f2.ser, .int .i64 (rd_TR xs (k : Int)).f2.str, .int .i64 (rd_TR xs (k : Int)).f2.wk, .int .i64 (rd_TR xs (k : Int)).f2.pr, .bool (rd_TR xs (k : Int)).f2.sd, .slice (rd_TR xs (k : Int)).f2.fa (rd_TR xs (k : Int)).f2.fn (rd_TR xs (k : Int)).f2.fc] 82) none) (fun r e => by cases e)
      have hrd : rd_TR xs (k : Int) = xs[k] := by unfold rd_TR; rw [Int.toNat_natCast, List.getD_eq_getElem?_getD, List.getElem?_eq_getElem hlt]; rfl
      have hst := inTo_step SR.f0 xs s k hlt
      have hlen := inTo_len SR.f0 xs s k
      rw [← hjs, fvs_len] at hlen
      rw [← hrd, ← hjs] at hst
      cases hx : ((rd_TR xs (k : Int)).f0 == s) with
      | true =>
        rw [hx, if_pos rfl] at hst
        have HS := Aside0.mk (fvs_snoc hlt hst)
        obtain ⟨fn, tmps, assign, body, hy, hR⟩ := hY _ ⟨k, hlt⟩ _ hJA (by omega)
        clear hst hrd hjs
        gi_wp2
        refine hR.mono ?_
        rintro e W3 (⟨rfl, hJ3, hk3⟩ | ⟨rfl, hJx3⟩)
        · gi_wp2
          go_roundw
          case rel => exact ⟨k + 1, by omega, by simp, ⟨_, HS.out, hJ3⟩, (hnx.trans hbA).trans hk3⟩
          case measure => simp [intOf]; omega
        · gi_wp2
          refine bodyPost_ret (results_none rfl _ _ _) rfl ?_
          exact ⟨⟨_, rfl⟩, .inr ⟨_, by rw [HS.out]; exact inTo_prefix _ _ _ _ (by omega), hJx3⟩⟩
      | false =>
        rw [hx, if_neg (by decide)] at hst
        have HS := Aside0.mk hst.symm
        clear hst hrd hjs
        gi_wp2
        refine ⟨fun _ h => (by cases h), ?_⟩
        gi_wp2
        go_roundw
        case rel => exact ⟨k + 1, by omega, by simp, ⟨_, HS.out, hJA⟩, hnx.trans hbA⟩
        case measure => simp [intOf]; omega
    · obtain rfl : k = xs.length := by omega
      gi_wp2
      go_end0
      exact ⟨⟨_, rfl⟩, .inl ⟨_, hjs.trans (inTo_all _ _ _), hJs⟩⟩
theorem in82_stops (F : Fence) (n : Nat) (hf : F.fn 130) (hro : F.round = none) (hn : 1 ≤ n) (Bq Bk n₀ : Nat) (A : Option Addr) (c : Nat) (xs : List SR) (s : Int) (hbig : xs.length ≤ 1000000) (w : World) (hBq : Bq < w.heap.size) (hBk : Bk < w.heap.size)
    (hn₀ : n₀ ≤ w.heap.size) (hc0 : w.cell? ⟨Bq, 0, none⟩ = some (.slice A xs.length c)) (hc2 : w.cell? ⟨Bk, 0, none⟩ = some (.int .i64 s)) (hC : ∀ W', Below n₀ w W' → Kd.C kR W' A xs.length xs) :
    SeqStopsK F n Try.prog 130 #[.pointer (some ⟨Bq, 0, none⟩), .pointer (some ⟨Bk, 0, none⟩)] (fun x : Fin xs.length => #[Value.int .i64 (x.val : Int)]) (KpB n₀ Bk) (fun ys => fvs ys = inS SR.f0 xs s) (fun pre => fvs pre <+: inS SR.f0 xs s) xs.length w := fun l J Jx W hW hJ _ hY h0 =>
  in182_in F n hf hro hn l Bq Bk n₀ A c xs s hbig J Jx W (Nat.le_trans hn₀ hW.size) hJ hY (Nat.lt_of_lt_of_le hBk hW.size) ((hW.cell (p := ⟨Bq, 0, none⟩) hBq).trans hc0) ((hW.cell (p := ⟨Bk, 0, none⟩) hBk).trans hc2) (fun W' hb => hC W' ((hW.mono hn₀).trans hb)) h0
set_option maxHeartbeats 2000000 in
theorem within_c (n m : Int) (w : World) : Calls Try.prog 102 #[.int .i64 n, .int .i64 m] w fun e w' => e = .returned (.bool (decide (IntKind.u64.wrap n ≤ IntKind.u64.wrap m))) ∧ w' = w := by
  go_enter Try.func102, Try.ntmps102
  go_wp2
  go_ret
  exact ⟨rfl, rfl⟩
set_option maxHeartbeats 2000000 in
theorem pack_c (s g : Int) (w : World) : Calls Try.prog 69 #[.int .i64 s, .int .i64 g] w fun e w' => e = .returned (.int .i64 (pk s g)) ∧ w' = w := by
  obtain ⟨b1, h1⟩ : ∃ b, decide (IntKind.u64.wrap s ≤ IntKind.u64.wrap 23) = b := ⟨_, rfl⟩
  obtain ⟨b2, h2⟩ : ∃ b, decide (IntKind.u64.wrap g ≤ IntKind.u64.wrap 9) = b := ⟨_, rfl⟩
  have hp : pk s g = if (b1 && b2) = true then wrap64 (1 + (Go.bits .or .i64 (wrap64 (g * 32)) s)) else 0 := by rw [← h1, ← h2]; rfl
  have H1 := Aside0.mk h1
  have H2 := Aside0.mk h2
  have HP := Aside0.mk hp
  clear h1 h2 hp
  cases b1 with
  | false =>
    go_enter Try.func69, Try.ntmps69
    go_wp2_with (go_at_call 102; refine (within_c _ _ _).mono ?_; rintro e w' ⟨rfl, rfl⟩; rw [H1.out])
    go_ret
    exact ⟨by rw [HP.out]; rfl, rfl⟩
  | true =>
    cases b2 with
    | false =>
      go_enter Try.func69, Try.ntmps69
      go_wp2_with (go_at_call 102; refine (within_c _ _ _).mono ?_; rintro e w' ⟨rfl, rfl⟩; first | rw [H1.out] | rw [H2.out])
      go_ret
      exact ⟨by rw [HP.out]; rfl, rfl⟩
    | true =>
      go_enter Try.func69, Try.ntmps69
      go_wp2_with (go_at_call 102; refine (within_c _ _ _).mono ?_; rintro e w' ⟨rfl, rfl⟩; first | rw [H1.out] | rw [H2.out])
      go_ret
      exact ⟨by rw [HP.out]; rfl, rfl⟩
theorem row082 (w : World) : Kd.R kR 82 (w.alloc (.cells #[] 82)) w.heap.size (fun k => w.heap.size ≤ k) (.slice (some ⟨w.heap.size, 0, none⟩) 0 0) [] :=
  ⟨fun k hk => by simp [Value.ownBlock] at hk; omega, [], ⟨rfl, .inr ⟨w.heap.size, 0, #[], rfl, Nat.le_refl _, blk_new w _, Nat.le_refl _, by decide, rfl, rfl⟩⟩, rfl, fun j p hj => by simp at hj⟩
set_option maxRecDepth 100000 in
set_option maxHeartbeats 4000000 in
theorem clone82_c (A : Option Addr) (c : Nat) (xs : List SR) (w : World) (hpos : 0 < xs.length) (hbig : xs.length ≤ 1000000) (hC : Kd.C kR w A xs.length xs) :
    Calls Try.prog 131 #[.slice A xs.length c] w fun e w' => ∃ v, e = .returned v ∧ Kd.R kR 82 w' w.heap.size (fun k => w.heap.size ≤ k) v xs ∧ Below w.heap.size w w' := by
  obtain ⟨ad, rfl, _⟩ := hC.2.2 hpos
  have HC := Aside0.mk hC
  have HR := Aside0.mk (row082 w)
  have HB := Aside0.mk (show Below w.heap.size w (w.alloc (.cells #[] 82)) from (Below.refl _ _).alloc (Nat.le_refl _) _)
  have HBIG := Aside0.mk hbig
  have hnil := Lib.run_eql_slice_nil (P := Try.prog) w 22 82 (some ad) xs.length c 0 0 Try.underlying22
  clear hC hbig
  go_enter Try.func131, Try.ntmps131
  go_wp2_with (at_builtin; go_must (refine Kd.R_append_rows kR (w0 := w) w.heap.size rfl (.tmp 5) (.tmp 6) 22 82 (.agg #[.int .i64 0, .int .i64 0, .int .i64 0, .int .i64 0, .int .i64 0, .int .i64 0, .bool false, .slice none 0 0]) 80 rfl Try.underlying22 info82 rfl (by decide) (by decide) (.slice (some ⟨w.heap.size, 0, none⟩) 0 0) [] xs (some ad) xs.length c (fun k => w.heap.size ≤ k) (fun _ => False) rfl rfl HR.out (Kd.C_below HC.out HB.out) (fun x cs h => flatR _ _ _ _ _ _ h) (fun _ h => h.elim) (fun k hk => by rw [World.size_alloc] at hk; omega) HB.out (by simp) (by have := HBIG.out; simp; omega) ?_); intro v1 w1 ho hb hg _; rw [List.nil_append] at ho; have HO := Aside0.mk ho; have HB1 := Aside0.mk hb; clear ho hb hg)
  go_ret
  exact ⟨_, rfl, HO.out, HB1.out⟩
set_option maxRecDepth 100000 in
set_option maxHeartbeats 4000000 in
theorem turn82_c (fd : Nat) (caps : Array Value) (heg : ∀ args w, (callFunc fd args).run Try.prog w = .ok (.enter fd args) w) (A : Option Addr) (c : Nat) (xs : List SR) (last : Int) (i : Nat) (hi : i < xs.length) (y : SR) (w : World) (hbig : xs.length ≤ 1000000) (hC : Kd.C kR w A xs.length xs)
    (hdo : ∀ (W : World) (g cap : Nat), Below w.heap.size w W → w.heap.size ≤ g → Kd.R kR 82 W w.heap.size (fun k => w.heap.size ≤ k) (.slice (some ⟨g, 0, none⟩) xs.length cap) xs →
      Calls Try.prog fd (#[.pointer (some ⟨g, i * 8, none⟩)] ++ caps) W fun e W' => (∃ v, e = .returned v) ∧ Kd.R kR 82 W' w.heap.size (fun k => w.heap.size ≤ k) (.slice (some ⟨g, 0, none⟩) xs.length cap) (xs.set i y) ∧ KeepBut W W' g none ∧ Below w.heap.size W W') :
    Calls Try.prog 104 #[.agg #[.slice A xs.length c, .int .i64 last], .int .i64 (i : Int), .func (.func fd) #[] caps] w fun e w' => ∃ g cap, e = .returned (.agg #[.slice (some ⟨g, 0, none⟩) xs.length cap, .int .i64 last]) ∧ Kd.R kR 82 w' w.heap.size (fun k => w.heap.size ≤ k) (.slice (some ⟨g, 0, none⟩) xs.length cap) (xs.set i y) ∧ Below w.heap.size w w' := by
  have hpos : 0 < xs.length := by omega
  have HC := Aside0.mk hC
  have HD := Aside0.mk hdo
  have HBIG := Aside0.mk hbig
  have hB0 : Below w.heap.size w ((w.alloc (.cells #[.slice A xs.length c, .int .i64 last] 24)).alloc (.cells #[.slice none 0 0, .int .i64 0] 24)) := ((Below.refl _ _).alloc (Nat.le_refl _) _).alloc (by simp) _
  have HB0 := Aside0.mk hB0
  have HK0 := Aside0.mk (show ((w.alloc (.cells #[.slice A xs.length c, .int .i64 last] 24)).alloc (.cells #[.slice none 0 0, .int .i64 0] 24)).heap[w.heap.size]? = some (.cells #[.slice A xs.length c, .int .i64 last] 24 (0, 0)) from blk_alloc (blk_new w _) _)
  have HK1 := Aside0.mk (show ((w.alloc (.cells #[.slice A xs.length c, .int .i64 last] 24)).alloc (.cells #[.slice none 0 0, .int .i64 0] 24)).heap[w.heap.size + 1]? = some (.cells #[.slice none 0 0, .int .i64 0] 24 (0, 0)) by have h := blk_new (w.alloc (.cells #[.slice A xs.length c, .int .i64 last] 24)) (.cells #[.slice none 0 0, .int .i64 0] 24); rw [World.size_alloc] at h; exact h)
  clear hC hdo hbig hB0
  go_enter Try.func104, Try.ntmps104
  go_wp2_with (go_at_call 131; go_must (refine (clone82_c A c xs _ hpos HBIG.out (Kd.C_below HC.out HB0.out)).mono ?_; rintro e w1 ⟨v1, rfl, ho, hb⟩; obtain ⟨g, cap, rfl, hg, hgl, _⟩ := Kd.R_form ho hpos; have BK0 := Aside0.mk (blk_below HK0.out hb); have BK1 := Aside0.mk (blk_below HK1.out hb); have HO := Aside0.mk ho; have HB1 := Aside0.mk (HB0.out.trans (hb.mono (Nat.le_trans (Nat.le_add_right _ 2) (by simp)))); have hg2 : w.heap.size + 2 ≤ g := (by simp at hg; omega); have hcz0 : w1.cell? ⟨w.heap.size, 0, none⟩ = some (.slice A xs.length c) := (blk_cell BK0.out 0).trans rfl; have hfz0 := blk_frozen BK0.out 0; clear ho hb hg))
  rename_i K Q' _ _
  have hW2 : Below w.heap.size w (w1.setCell ⟨w.heap.size, 0, none⟩ (.slice (some ⟨g, 0, none⟩) xs.length cap)) := HB1.out.setCell (p := ⟨w.heap.size, 0, none⟩) (Nat.le_refl _) _
  have hR2 : Kd.R kR 82 (w1.setCell ⟨w.heap.size, 0, none⟩ (.slice (some ⟨g, 0, none⟩) xs.length cap)) w.heap.size (fun k => w.heap.size ≤ k) (.slice (some ⟨g, 0, none⟩) xs.length cap) xs :=
    Kd.R_mono (Kd.R_lower (Kd.R_far HO.out (p := ⟨w.heap.size, 0, none⟩) (fun k hk => by simp at hk ⊢; omega) _) (by simp; omega)) (fun k hk => by simp at hk; omega)
  have q0 : (w1.setCell ⟨w.heap.size, 0, none⟩ (.slice (some ⟨g, 0, none⟩) xs.length cap)).heap[w.heap.size]? = some (.cells #[.slice (some ⟨g, 0, none⟩) xs.length cap, .int .i64 last] 24 (0, 0)) := blk_put BK0.out 0 _ rfl
  have q1 : (w1.setCell ⟨w.heap.size, 0, none⟩ (.slice (some ⟨g, 0, none⟩) xs.length cap)).heap[w.heap.size + 1]? = some (.cells #[.slice none 0 0, .int .i64 0] 24 (0, 0)) := (Below.heap_setCell _ _ _ _ (by simp)).trans BK1.out
  refine (HD.out _ g cap hW2 (by omega) hR2).mono ?_
  rintro e w3 ⟨⟨v3, rfl⟩, hR3, hk3, hb3⟩
  have e0 := Aside0.mk (hk3.blk q0 (by omega) (by simp))
  have e1 := Aside0.mk (hk3.blk q1 (by omega) (by simp))
  have cz0 : w3.cell? ⟨w.heap.size, 0, none⟩ = some (.slice (some ⟨g, 0, none⟩) xs.length cap) := (blk_cell e0.out 0).trans rfl
  have cz1 : w3.cell? ⟨w.heap.size, 1, none⟩ = some (.int .i64 last) := (blk_cell e0.out 1).trans rfl
  have dz0 : w3.cell? ⟨w.heap.size + 1, 0, none⟩ = some (.slice none 0 0) := (blk_cell e1.out 0).trans rfl
  have dz1 : w3.cell? ⟨w.heap.size + 1, 1, none⟩ = some (.int .i64 0) := (blk_cell e1.out 1).trans rfl
  have df0 := blk_frozen e1.out 0
  have df1 := blk_frozen e1.out 1
  have HR3 := Aside0.mk hR3
  have HB3 := Aside0.mk (hW2.trans hb3)
  clear hR3 hb3 hk3 hR2 hW2 q0 q1
  go_wp2
  refine bodyPost_ret (results_cell_row rfl _ _ (w.heap.size + 1) 24 #[.slice (some ⟨g, 0, none⟩) xs.length cap, .int .i64 last] (0, 0) _ rfl (by refine blk_put (cs := #[.slice (some ⟨g, 0, none⟩) xs.length cap, .int .i64 0]) ?_ 1 _ rfl; refine blk_put (cs := #[.slice none 0 0, .int .i64 0]) ?_ 0 _ rfl; exact e1.out) Try.underlying24 rfl (by kernel_rfl)) rfl ?_
  have hT : ∀ q, q ∈ 82 :: kR.E → q ≠ 24 := fun q hq => by have h0 : kR.E = [] := rfl; rw [h0] at hq; simp at hq; omega
  have a1 := Kd.R_set HR3.out e1.out hT 0 (.slice (some ⟨g, 0, none⟩) xs.length cap)
  have a2 := Kd.R_set a1 (blk_put (cs := #[.slice none 0 0, .int .i64 0]) e1.out 0 _ rfl) hT 1 (.int .i64 last)
  exact ⟨_, _, rfl, a2, (HB3.out.setCell (p := ⟨w.heap.size + 1, 0, none⟩) (by simp) _).setCell (p := ⟨w.heap.size + 1, 1, none⟩) (by simp) _⟩
section
variable {F : Fence} {n : Nat} {P : Program} {md : Region.Mode} {ops : Array Oper} {Q : Exit → Act → World → Prop}
theorem wpOpIn_round (hro : F.round = none) (l : Nat) (hd : ∀ (i : Nat) (o : Oper), ops[i]? = some o → ∀ c : Call, o.op ≠ Op.defer c) (i : Nat) (K : Act → World → Prop) (a : Act) (w : World) :
    wpOpIn (F.inRound l) n P ops Q i K a w = wpOpIn F n P ops Q i K a w := by
  unfold wpOpIn
  cases h : ops[i]? with
  | none => rfl
  | some o =>
    simp only []
    have e1 : o.wpIn (F.inRound l) n P a w K Q = o.wpIn F n P a w K Q := by
      unfold Oper.wpIn
      rw [Fence.inRound_round, hro, Oper.semAt_some l _ _ (hd i o h), Oper.semAt_none]
      rfl
    rw [e1]
    rfl
theorem wpAnyIn_round (hro : F.round = none) (l : Nat) (hd : ∀ (i : Nat) (o : Oper), ops[i]? = some o → ∀ c : Call, o.op ≠ Op.defer c) : ∀ (fuel : Nat) (listed : Array Bool) (a : Act) (w : World),
    wpAnyIn (F.inRound l) n P md ops Q fuel listed a w = wpAnyIn F n P md ops Q fuel listed a w := by
  intro fuel
  induction fuel with
  | zero => intro listed a w; simp only [wpAnyIn]
  | succ fuel ih =>
    intro listed a w
    simp only [wpAnyIn]
    have e : ∀ i, wpAnyIn (F.inRound l) n P md ops Q fuel (listed.setIfInBounds i true) = wpAnyIn F n P md ops Q fuel (listed.setIfInBounds i true) := fun i => funext fun a => funext fun w => ih _ a w
    simp only [e, wpOpIn_round hro l hd]
theorem region_round (hro : F.round = none) (l : Nat) {ops : Array Oper} (hd : ops.toList.all (fun o : Oper => match o.op with | .defer _ => false | _ => true) = true) {id : Nat} {a : Act} {w : World} (hm : P.follows .mixedOrders = true)
    (h : wpAnyIn F n P .any ops Q ops.size (Array.replicate ops.size false) a w.drew) : (Code.region id ops true).wpIn (F.inRound l) n P Q a w := by
  refine wpIn_region_any hm ?_
  rw [wpAnyIn_round hro l (fun (i : Nat) (o : Oper) ho c hc => ?_)]
  · exact h
  · have hm : o ∈ ops.toList := by rw [Array.mem_toList_iff]; exact Array.mem_of_getElem? ho
    have := List.all_eq_true.1 hd o hm
    rw [hc] at this
    cases this
end
def hit82 (l : List SR) (h : Int) (i : Nat) : Bool := pk (i : Int) (l.getD i zR).f1 == h
theorem fd_filter82 (l : List SR) (s h : Int) : fdIn SR.f0 SR.f1 l s h = ((List.range l.length).filter (isS SR.f0 l s)).find? (hit82 l h) := by
  unfold fdIn
  rw [List.find?_filter]
  congr 1
  funext i
  unfold isS hit82
  cases hi : l[i]? with
  | none => simp
  | some c =>
    have : l.getD i zR = c := by rw [List.getD_eq_getElem?_getD, hi]; rfl
    rw [this]
    rw [Bool.eq_iff_iff]
    simp
theorem fvs_val82 {m : Nat} (ys : List (Fin m)) (L : List Nat) (h : fvs ys = L.map fun i : Nat => (i : Int)) : ys.map (·.val) = L := by
  have h2 : (ys.map (·.val)).map (fun i : Nat => (i : Int)) = L.map fun i : Nat => (i : Int) := by rw [← h, List.map_map]; rfl
  exact (List.map_inj_right (fun a b e => Int.ofNat.inj e)).1 h2
theorem fd_none82 {l : List SR} {s h : Int} {ys : List (Fin l.length)} (hy : fvs ys = inS SR.f0 l s) (hn : ∀ j ∈ ys, hit82 l h j.val = false) : fdIn SR.f0 SR.f1 l s h = none := by
  rw [fd_filter82, ← fvs_val82 ys _ hy, List.find?_eq_none]
  intro i hi
  obtain ⟨j, hj, rfl⟩ := List.mem_map.1 hi
  rw [hn j hj]
  decide
theorem fd_some82 {l : List SR} {s h : Int} {p : List (Fin l.length)} {x : Fin l.length} (hy : fvs (p ++ [x]) <+: inS SR.f0 l s) (hn : ∀ j ∈ p, hit82 l h j.val = false) (hx : hit82 l h x.val = true) : fdIn SR.f0 SR.f1 l s h = some x.val := by
  rw [fd_filter82]
  have h1 := List.prefix_iff_eq_take.1 hy
  unfold inS at h1
  rw [← List.map_take] at h1
  have h2 := fvs_val82 _ _ h1
  rw [← List.take_append_drop (fvs (p ++ [x])).length ((List.range l.length).filter (isS SR.f0 l s)), ← h2, List.map_append, List.find?_append, List.find?_append]
  have h3 : (p.map (·.val)).find? (hit82 l h) = none := by
    rw [List.find?_eq_none]
    intro i hi
    obtain ⟨j, hj, rfl⟩ := List.mem_map.1 hi
    rw [hn j hj]
    decide
  rw [h3]
  simp [hx]
theorem fnd_a82 {l : List SR} {h : Int} (hz : h ≠ 0) {i : Nat} (h1 : fdIn SR.f0 SR.f1 l 1 h = some i) : fnd SR.f0 SR.f1 l h = ((i : Int), 0) := by unfold fnd; rw [if_neg hz, h1]
theorem fnd_b82 {l : List SR} {h : Int} (hz : h ≠ 0) {i : Nat} (h1 : fdIn SR.f0 SR.f1 l 1 h = none) (h2 : fdIn SR.f0 SR.f1 l 2 h = some i) : fnd SR.f0 SR.f1 l h = ((i : Int), 0) := by unfold fnd; rw [if_neg hz, h1, h2]
theorem fnd_c82 {l : List SR} {h : Int} (hz : h ≠ 0) (h1 : fdIn SR.f0 SR.f1 l 1 h = none) (h2 : fdIn SR.f0 SR.f1 l 2 h = none) : fnd SR.f0 SR.f1 l h = (-1, 3) := by unfold fnd; rw [if_neg hz, h1, h2]
theorem keepsOthers_below82 {W W' : World} (h : Below W.heap.size W W') : KeepsOthers W W' := ⟨h.size, fun k o hk _ => (h.block k (blk_lt hk)).trans hk⟩
theorem blk_own82 {W W' : World} {row : Option Nat} {g t : Nat} {cs : Array Value} (h : W.heap[g]? = some (.cells cs t (0, 0))) (hg : W.grownBy W' row) (hr : ∀ r, row = some r → ∃ o : Obj, W.heap[r]? = some o ∧ o.isCells = false) : W'.heap[g]? = some (.cells cs t (0, 0)) := (grownBy_keeps_cells hg hr h rfl).trans h
theorem R_own82 {W W' : World} {row : Option Nat} {base : Nat} {ok : Nat → Prop} {v : Value} {xs : List SR} (h : Kd.R kR 82 W base ok v xs) (hg : W.grownBy W' row) (hr : ∀ r, row = some r → ∃ o : Obj, W.heap[r]? = some o ∧ o.isCells = false) : Kd.R kR 82 W' base ok v xs :=
  Kd.R_mono (Kd.R_step (Kd.R_bound h) (fun k hk _ => by obtain ⟨_, _, _, q, _, cells, hc⟩ := hk; exact grownBy_keeps_cells hg hr hc rfl)) (fun k hk => hk.1)
theorem inS_none82 {l : List SR} (h : inS SR.f0 l 0 = []) : frs SR.f0 l = none := by
  unfold inS at h
  unfold frs
  rw [List.findIdx?_eq_none_iff]
  intro x hx
  obtain ⟨i, hi, rfl⟩ := List.getElem_of_mem hx
  rw [List.map_eq_nil_iff, List.filter_eq_nil_iff] at h
  have := h i (by simpa using hi)
  rw [isS_at _ _ _ _ hi] at this
  simpa using this
theorem inS_first82 {l : List SR} {x : Int} (h : [x] <+: inS SR.f0 l 0) : ∃ i : Nat, x = (i : Int) ∧ i < l.length ∧ frs SR.f0 l = some i := by
  obtain ⟨t, ht⟩ := h
  unfold inS at ht
  have hso : ((List.range l.length).filter (isS SR.f0 l 0)).Pairwise (· < ·) := List.Pairwise.filter _ List.pairwise_lt_range
  have hmm : ∀ j, j ∈ (List.range l.length).filter (isS SR.f0 l 0) ↔ (j < l.length ∧ isS SR.f0 l 0 j = true) := fun j => by rw [List.mem_filter, List.mem_range]
  generalize (List.range l.length).filter (isS SR.f0 l 0) = F at ht hso hmm
  cases F with
  | nil => simp at ht
  | cons f1 f2 =>
    simp at ht
    have h1 := (hmm f1).1 (by simp)
    refine ⟨f1, ht.1, h1.1, ?_⟩
    unfold frs
    rw [List.findIdx?_eq_some_iff_getElem]
    refine ⟨h1.1, by have := h1.2; rw [isS_at _ _ _ _ h1.1] at this; exact this, fun j hj hz => ?_⟩
    have hjm := (hmm j).2 ⟨by omega, by rw [isS_at _ _ _ _ (by omega)]; exact hz⟩
    rcases List.mem_cons.1 hjm with rfl | hj2
    · omega
    · have := (List.pairwise_cons.1 hso).1 j hj2
      omega
theorem put82 {W : World} {base g cap : Nat} {ok : Nat → Prop} {xs : List SR} (h : Kd.R kR 82 W base ok (.slice (some ⟨g, 0, none⟩) xs.length cap) xs) (i : Nat) (hi : i < xs.length) (y : SR) (j : Nat) (us : List Value) (hj : j + us.length ≤ 8)
    (hy : [Value.int .i64 y.f0, Value.int .i64 y.f1, .int .i64 y.f2.ser, .int .i64 y.f2.str, .int .i64 y.f2.wk, .int .i64 y.f2.pr, .bool y.f2.sd, .slice y.f2.fa y.f2.fn y.f2.fc] = [Value.int .i64 (xs.getD i zR).f0, Value.int .i64 (xs.getD i zR).f1, .int .i64 (xs.getD i zR).f2.ser, .int .i64 (xs.getD i zR).f2.str, .int .i64 (xs.getD i zR).f2.wk, .int .i64 (xs.getD i zR).f2.pr, .bool (xs.getD i zR).f2.sd, .slice (xs.getD i zR).f2.fa (xs.getD i zR).f2.fn (xs.getD i zR).f2.fc].take j ++ us ++ [Value.int .i64 (xs.getD i zR).f0, Value.int .i64 (xs.getD i zR).f1, .int .i64 (xs.getD i zR).f2.ser, .int .i64 (xs.getD i zR).f2.str, .int .i64 (xs.getD i zR).f2.wk, .int .i64 (xs.getD i zR).f2.pr, .bool (xs.getD i zR).f2.sd, .slice (xs.getD i zR).f2.fa (xs.getD i zR).f2.fn (xs.getD i zR).f2.fc].drop (j + us.length)) :
    Kd.R kR 82 (W.setCells g (i * 8 + j) us) base ok (.slice (some ⟨g, 0, none⟩) xs.length cap) (xs.set i y) := by
  obtain ⟨c, hcl, hM, hcc, _⟩ := Kd.R_elem h zR (i : Int) (by omega) (by omega)
  rw [Int.toNat_natCast] at hM hcc
  cases kR_openM hM
  have := (Kd.R_seg h (i : Int) (by omega) (by omega) (seg := us) (j := j) (okp := fun _ => False) (x' := y) hcl (by rw [Int.toNat_natCast]; exact hcc) hj (by have := kR_mkM W base (fun _ => False) y; rw [hy] at this; exact this) (fun _ h => h.elim)).1
  rw [Int.toNat_natCast] at this
  exact this
theorem setD82 (xs : List SR) (i : Nat) (hi : i < xs.length) (y : SR) : (xs.set i y).getD i zR = y := by simp [List.getD_eq_getElem?_getD, hi]
theorem cells82 {W : World} {base g cap : Nat} {ok : Nat → Prop} {xs : List SR} (h : Kd.R kR 82 W base ok (.slice (some ⟨g, 0, none⟩) xs.length cap) xs) (i : Nat) (hi : i < xs.length) :
    (W.cell? ⟨g, i * 8, none⟩ = some (.int .i64 (xs.getD i zR).f0) ∧ W.cell? ⟨g, i * 8 + 1, none⟩ = some (.int .i64 (xs.getD i zR).f1) ∧ W.cell? ⟨g, i * 8 + 2, none⟩ = some (.int .i64 (xs.getD i zR).f2.ser) ∧ W.cell? ⟨g, i * 8 + 3, none⟩ = some (.int .i64 (xs.getD i zR).f2.str) ∧ W.cell? ⟨g, i * 8 + 4, none⟩ = some (.int .i64 (xs.getD i zR).f2.wk) ∧ W.cell? ⟨g, i * 8 + 5, none⟩ = some (.int .i64 (xs.getD i zR).f2.pr) ∧ W.cell? ⟨g, i * 8 + 6, none⟩ = some (.bool (xs.getD i zR).f2.sd) ∧ W.cell? ⟨g, i * 8 + 7, none⟩ = some (.slice (xs.getD i zR).f2.fa (xs.getD i zR).f2.fn (xs.getD i zR).f2.fc)) ∧ ∀ j, W.frozen? ⟨g, i * 8 + j, none⟩ = false := by
  obtain ⟨c, hcl, hM, hcc, hf⟩ := Kd.R_elem h zR (i : Int) (by omega) (by omega)
  rw [Int.toNat_natCast] at hM hcc hf
  cases kR_openM hM
  exact ⟨⟨hcc 0 _ rfl, hcc 1 _ rfl, hcc 2 _ rfl, hcc 3 _ rfl, hcc 4 _ rfl, hcc 5 _ rfl, hcc 6 _ rfl, hcc 7 _ rfl⟩, hf⟩
theorem putV82 {W : World} {base g cap : Nat} {ok : Nat → Prop} {xs : List SR} (h : Kd.R kR 82 W base ok (.slice (some ⟨g, 0, none⟩) xs.length cap) xs) (i : Nat) (hi : i < xs.length) (v : RO) :
    Kd.R kR 82 ((((((W.setCell ⟨g, i * 8 + 2, none⟩ (.int .i64 v.ser)).setCell ⟨g, i * 8 + 2 + 1, none⟩ (.int .i64 v.str)).setCell ⟨g, i * 8 + 2 + 2, none⟩ (.int .i64 v.wk)).setCell ⟨g, i * 8 + 2 + 3, none⟩ (.int .i64 v.pr)).setCell ⟨g, i * 8 + 2 + 4, none⟩ (.bool v.sd)).setCell ⟨g, i * 8 + 2 + 5, none⟩ (.slice v.fa v.fn v.fc)) base ok (.slice (some ⟨g, 0, none⟩) xs.length cap) (xs.set i ⟨(xs.getD i zR).f0, (xs.getD i zR).f1, v⟩) := by
  have h2 := put82 h i hi ⟨(xs.getD i zR).f0, (xs.getD i zR).f1, v⟩ 2 [.int .i64 v.ser, .int .i64 v.str, .int .i64 v.wk, .int .i64 v.pr, .bool v.sd, .slice v.fa v.fn v.fc] (by simp) rfl
  simp only [World.setCells, Nat.add_assoc, Nat.reduceAdd] at h2 ⊢
  exact h2
theorem put082 {W : World} {base g cap : Nat} {ok : Nat → Prop} {xs : List SR} (h : Kd.R kR 82 W base ok (.slice (some ⟨g, 0, none⟩) xs.length cap) xs) (i : Nat) (hi : i < xs.length) (s : Int) :
    Kd.R kR 82 (W.setCell ⟨g, i * 8, none⟩ (.int .i64 s)) base ok (.slice (some ⟨g, 0, none⟩) xs.length cap) (xs.set i ⟨s, (xs.getD i zR).f1, (xs.getD i zR).f2⟩) := by
  have h2 := put82 h i hi ⟨s, (xs.getD i zR).f1, (xs.getD i zR).f2⟩ 0 [.int .i64 s] (by simp) rfl
  simp only [World.setCells, Nat.add_zero] at h2
  exact h2
set_option maxRecDepth 100000 in
set_option maxHeartbeats 4000000 in
theorem set182_do (w : World) (bv : Nat) (hbv : bv < w.heap.size) (v : RO) (hv : w.heap[bv]? = some (.cells #[.int .i64 v.ser, .int .i64 v.str, .int .i64 v.wk, .int .i64 v.pr, .bool v.sd, .slice v.fa v.fn v.fc] 29 (0, 0))) (xs : List SR) (i : Nat) (hi : i < xs.length) (W : World) (g cap : Nat) (hB : Below w.heap.size w W) (hg : w.heap.size ≤ g) (hR : Kd.R kR 82 W w.heap.size (fun k => w.heap.size ≤ k) (.slice (some ⟨g, 0, none⟩) xs.length cap) xs) :
    Calls Try.prog 91 (#[.pointer (some ⟨g, i * 8, none⟩)] ++ #[.pointer (some ⟨bv, 0, none⟩)]) W fun e W' => (∃ v, e = .returned v) ∧ Kd.R kR 82 W' w.heap.size (fun k => w.heap.size ≤ k) (.slice (some ⟨g, 0, none⟩) xs.length cap) (xs.set i ⟨(xs.getD i zR).f0, (xs.getD i zR).f1, v⟩) ∧ KeepBut W W' g none ∧ Below w.heap.size W W' := by
  obtain ⟨⟨c0, c1, c2, c3, c4, c5, c6, c7⟩, hf⟩ := cells82 hR i hi
  have f2 := hf 2
  have f3 := hf 3
  have f4 := hf 4
  have f5 := hf 5
  have f6 := hf 6
  have f7 := hf 7
  have hv' := blk_below hv hB
  have v0 := (blk_cell hv' 0).trans rfl
  have v1 := (blk_cell hv' 1).trans rfl
  have v2 := (blk_cell hv' 2).trans rfl
  have v3 := (blk_cell hv' 3).trans rfl
  have v4 := (blk_cell hv' 4).trans rfl
  have v5 := (blk_cell hv' 5).trans rfl
  have HR := Aside0.mk hR
  clear hR hv hB hf hv'
  go_enter Try.func91, Try.ntmps91
  go_wp2
  go_end0
  exact ⟨⟨_, rfl⟩, putV82 HR.out i hi v, ((((((KeepBut.refl W g none).set_ _ _).set_ _ _).set_ _ _).set_ _ _).set_ _ _).set_ _ _, ((((((Below.refl _ W).setCell hg _).setCell hg _).setCell hg _).setCell hg _).setCell hg _).setCell hg _⟩
set_option maxRecDepth 100000 in
set_option maxHeartbeats 4000000 in
theorem take182_do (w : World) (bv : Nat) (hbv : bv < w.heap.size) (v : RO) (hv : w.heap[bv]? = some (.cells #[.int .i64 v.ser, .int .i64 v.str, .int .i64 v.wk, .int .i64 v.pr, .bool v.sd, .slice v.fa v.fn v.fc] 29 (0, 0))) (xs : List SR) (i : Nat) (hi : i < xs.length) (W : World) (g cap : Nat) (hB : Below w.heap.size w W) (hg : w.heap.size ≤ g) (hR : Kd.R kR 82 W w.heap.size (fun k => w.heap.size ≤ k) (.slice (some ⟨g, 0, none⟩) xs.length cap) xs) :
    Calls Try.prog 105 (#[.pointer (some ⟨g, i * 8, none⟩)] ++ #[.pointer (some ⟨bv, 0, none⟩)]) W fun e W' => (∃ v, e = .returned v) ∧ Kd.R kR 82 W' w.heap.size (fun k => w.heap.size ≤ k) (.slice (some ⟨g, 0, none⟩) xs.length cap) (xs.set i ⟨1, (xs.getD i zR).f1, v⟩) ∧ KeepBut W W' g none ∧ Below w.heap.size W W' := by
  obtain ⟨⟨c0, c1, c2, c3, c4, c5, c6, c7⟩, hf⟩ := cells82 hR i hi
  have f0 : W.frozen? ⟨g, i * 8, none⟩ = false := hf 0
  have f2 := hf 2
  have f3 := hf 3
  have f4 := hf 4
  have f5 := hf 5
  have f6 := hf 6
  have f7 := hf 7
  have hv' := blk_below hv hB
  have v0 := (blk_cell hv' 0).trans rfl
  have v1 := (blk_cell hv' 1).trans rfl
  have v2 := (blk_cell hv' 2).trans rfl
  have v3 := (blk_cell hv' 3).trans rfl
  have v4 := (blk_cell hv' 4).trans rfl
  have v5 := (blk_cell hv' 5).trans rfl
  have HR := Aside0.mk hR
  clear hR hv hB hf hv'
  go_enter Try.func105, Try.ntmps105
  refine start_ (n := 9) (S := fun w' => w'.cell? ⟨bv, 0, none⟩ = some (.int .i64 v.ser) ∧ w'.cell? ⟨bv, 1, none⟩ = some (.int .i64 v.str) ∧ w'.cell? ⟨bv, 2, none⟩ = some (.int .i64 v.wk) ∧ w'.cell? ⟨bv, 3, none⟩ = some (.int .i64 v.pr) ∧ w'.cell? ⟨bv, 4, none⟩ = some (.bool v.sd) ∧ w'.cell? ⟨bv, 5, none⟩ = some (.slice v.fa v.fn v.fc)) (ds := []) (bA 9 0) (by kernel_rfl) rfl rfl ⟨v0, v1, v2, v3, v4, v5⟩ (fun hHeld => ?_)
  generalize hWd : W.drew = W1 at hHeld ⊢
  have HR1 := Aside0.mk (show Kd.R kR 82 W1 w.heap.size (fun k => w.heap.size ≤ k) (.slice (some ⟨g, 0, none⟩) xs.length cap) xs by rw [← hWd]; exact Kd.R_drew HR.out)
  have HK1 := Aside0.mk (show KeepBut W W1 g none by rw [← hWd]; exact keep_drew (KeepBut.refl W g none))
  have HB1 := Aside0.mk (show Below w.heap.size W W1 by rw [← hWd]; exact below_drew1 (Below.refl _ W))
  clear hWd HR
  refine pure_ (i := 0) (N := some 3) (v := ?_) (a' := ?_) (bA 9 1) rfl rfl (by kernel_rfl) (fun _ _ _ h => h) (Or.inl ⟨by rfl, ?_⟩) ?_ ?_
  rotate_left
  · intro w'; go_simp; with_reducible rfl
  rotate_left
  · simp only [Act.put, q1, q2, q3, i64_w, i32_w]
    rfl
  refine pure_ (i := 1) (N := some 4) (v := ?_) (a' := ?_) (bA 9 3) rfl rfl (by kernel_rfl) (fun _ _ _ h => h) (Or.inl ⟨by rfl, ?_⟩) ?_ ?_
  rotate_left
  · intro w'; go_simp; with_reducible rfl
  rotate_left
  · simp only [Act.put, q1, q2, q3, i64_w, i32_w]
    rfl
  refine take_ (i := 2) (N := some 5) (v := ?_) (a' := ?_) (bA 9 7) rfl rfl (by kernel_rfl) (fun _ _ _ h => h) (Or.inl ⟨by rfl, ?_⟩) hHeld ?_ ?_
  rotate_left
  · rintro w' ⟨s0, s1, s2, s3, s4, s5⟩; go_simp; with_reducible rfl
  rotate_left
  · simp only [Act.put, q1, q2, q3, i64_w, i32_w]
    rfl
  refine pure_ (i := 3) (N := some 6) (v := ?_) (a' := ?_) (bA 9 15) rfl rfl (by kernel_rfl) (fun _ _ _ h => h) (Or.inl ⟨by rfl, ?_⟩) ?_ ?_
  rotate_left
  · intro w'; go_simp; with_reducible rfl
  rotate_left
  · simp only [Act.put, q1, q2, q3, i64_w, i32_w]
    rfl
  refine pure_ (i := 4) (N := some 7) (v := ?_) (a' := ?_) (bA 9 31) rfl rfl (by kernel_rfl) (fun _ _ _ h => h) (Or.inl ⟨by rfl, ?_⟩) ?_ ?_
  rotate_left
  · intro w'; go_simp; with_reducible rfl
  rotate_left
  · simp only [Act.put, q1, q2, q3, i64_w, i32_w]
    rfl
  refine one_ (i := 5) (N := none) (bA 9 63) rfl rfl (by kernel_rfl) (by decide) (fun K hK => ?_)
  have c0 := (cells82 HR1.out i hi).1.1
  have f0 : W1.frozen? ⟨g, i * 8, none⟩ = false := (cells82 HR1.out i hi).2 0
  refine skip_ (w1 := ?_) (by rfl) rfl ?_ ?_
  rotate_left
  · go_simp
    rfl
  have h1 := put082 HR1.out i hi 1
  have hl : (xs.set i ⟨1, (xs.getD i zR).f1, (xs.getD i zR).f2⟩).length = xs.length := by simp
  have hk1 := HK1.out.set_ (i * 8) (.int .i64 1)
  have hb1 := HB1.out.setCell (p := ⟨g, i * 8, none⟩) hg (.int .i64 1)
  clear c0 f0
  obtain ⟨q0, q1, q2, q3, q4, q5⟩ := hHeld
  have hne : ∀ j, (⟨bv, j, none⟩ : Addr).block ≠ g := fun j => by dsimp only; omega
  have e0 := (cell_far (p := ⟨g, i * 8, none⟩) (a := ⟨bv, 0, none⟩) (hne 0) (.int .i64 1)).trans q0
  have e1 := (cell_far (p := ⟨g, i * 8, none⟩) (a := ⟨bv, 1, none⟩) (hne 1) (.int .i64 1)).trans q1
  have e2 := (cell_far (p := ⟨g, i * 8, none⟩) (a := ⟨bv, 2, none⟩) (hne 2) (.int .i64 1)).trans q2
  have e3 := (cell_far (p := ⟨g, i * 8, none⟩) (a := ⟨bv, 3, none⟩) (hne 3) (.int .i64 1)).trans q3
  have e4 := (cell_far (p := ⟨g, i * 8, none⟩) (a := ⟨bv, 4, none⟩) (hne 4) (.int .i64 1)).trans q4
  have e5 := (cell_far (p := ⟨g, i * 8, none⟩) (a := ⟨bv, 5, none⟩) (hne 5) (.int .i64 1)).trans q5
  generalize W1.setCell ⟨g, i * 8, none⟩ (.int .i64 1) = W2 at h1 hk1 hb1 e0 e1 e2 e3 e4 e5 ⊢
  rw [← hl] at h1
  have HR2 := Aside0.mk h1
  clear h1
  refine hK.out _ _ ⟨e0, e1, e2, e3, e4, e5⟩ (fun hHeld => ?_)
  clear hK K
  clear e0 e1 e2 e3 e4 e5
  refine pure_ (i := 6) (N := some 8) (v := ?_) (a' := ?_) (bA 9 127) rfl rfl (by kernel_rfl) (fun _ _ _ h => h) (Or.inl ⟨by rfl, ?_⟩) ?_ ?_
  rotate_left
  · intro w'; go_simp; with_reducible rfl
  rotate_left
  · simp only [Act.put, q1, q2, q3, i64_w, i32_w]
    rfl
  refine pure_ (i := 7) (N := some 9) (v := ?_) (a' := ?_) (bA 9 255) rfl rfl (by kernel_rfl) (fun _ _ _ h => h) (Or.inl ⟨by rfl, ?_⟩) ?_ ?_
  rotate_left
  · intro w'; go_simp; with_reducible rfl
  rotate_left
  · simp only [Act.put, q1, q2, q3, i64_w, i32_w]
    rfl
  refine one_ (i := 8) (N := none) (bA 9 511) rfl rfl (by kernel_rfl) (by decide) (fun K hK => ?_)
  have hil : i < (xs.set i ⟨1, (xs.getD i zR).f1, (xs.getD i zR).f2⟩).length := by omega
  obtain ⟨⟨c0, c1, c2, c3, c4, c5, c6, c7⟩, hf⟩ := cells82 HR2.out i hil
  have f2 := hf 2
  have f3 := hf 3
  have f4 := hf 4
  have f5 := hf 5
  have f6 := hf 6
  have f7 := hf 7
  clear c0 c1 hf
  refine skip_ (w1 := ?_) (by rfl) rfl ?_ ?_
  rotate_left
  · go_simp
    rfl
  clear c2 c3 c4 c5 c6 c7 f2 f3 f4 f5 f6 f7
  have h2 := putV82 HR2.out i hil v
  rw [hl, List.set_set, setD82 xs i hi _] at h2
  have hk2 := (((((hk1.set_ (i * 8 + 2) (.int .i64 v.ser)).set_ (i * 8 + 2 + 1) (.int .i64 v.str)).set_ (i * 8 + 2 + 2) (.int .i64 v.wk)).set_ (i * 8 + 2 + 3) (.int .i64 v.pr)).set_ (i * 8 + 2 + 4) (.bool v.sd)).set_ (i * 8 + 2 + 5) (.slice v.fa v.fn v.fc)
  have hb2 := (((((hb1.setCell (p := ⟨g, i * 8 + 2, none⟩) hg (.int .i64 v.ser)).setCell (p := ⟨g, i * 8 + 2 + 1, none⟩) hg (.int .i64 v.str)).setCell (p := ⟨g, i * 8 + 2 + 2, none⟩) hg (.int .i64 v.wk)).setCell (p := ⟨g, i * 8 + 2 + 3, none⟩) hg (.int .i64 v.pr)).setCell (p := ⟨g, i * 8 + 2 + 4, none⟩) hg (.bool v.sd)).setCell (p := ⟨g, i * 8 + 2 + 5, none⟩) hg (.slice v.fa v.fn v.fc)
  have t0 : ∀ (W : World) (j o : Nat) (u x : Value), W.cell? ⟨bv, j, none⟩ = some x → (W.setCell ⟨g, o, none⟩ u).cell? ⟨bv, j, none⟩ = some x := fun W j o u x h => (cell_far (p := ⟨g, o, none⟩) (a := ⟨bv, j, none⟩) (hne j) u).trans h
  obtain ⟨q0, q1, q2, q3, q4, q5⟩ := hHeld
  refine hK.out _ _ ⟨t0 _ _ _ _ _ (t0 _ _ _ _ _ (t0 _ _ _ _ _ (t0 _ _ _ _ _ (t0 _ _ _ _ _ (t0 _ _ _ _ _ (q0)))))), t0 _ _ _ _ _ (t0 _ _ _ _ _ (t0 _ _ _ _ _ (t0 _ _ _ _ _ (t0 _ _ _ _ _ (t0 _ _ _ _ _ (q1)))))), t0 _ _ _ _ _ (t0 _ _ _ _ _ (t0 _ _ _ _ _ (t0 _ _ _ _ _ (t0 _ _ _ _ _ (t0 _ _ _ _ _ (q2)))))), t0 _ _ _ _ _ (t0 _ _ _ _ _ (t0 _ _ _ _ _ (t0 _ _ _ _ _ (t0 _ _ _ _ _ (t0 _ _ _ _ _ (q3)))))), t0 _ _ _ _ _ (t0 _ _ _ _ _ (t0 _ _ _ _ _ (t0 _ _ _ _ _ (t0 _ _ _ _ _ (t0 _ _ _ _ _ (q4)))))), t0 _ _ _ _ _ (t0 _ _ _ _ _ (t0 _ _ _ _ _ (t0 _ _ _ _ _ (t0 _ _ _ _ _ (t0 _ _ _ _ _ (q5))))))⟩ (fun hHeld => ?_)
  clear hK K
  refine done_ (by kernel_rfl) ?_
  go_end0
  exact ⟨⟨_, rfl⟩, h2, hk2, hb2⟩
end Go.Proofs.Ytkmjboeabmmecaa.MAll
