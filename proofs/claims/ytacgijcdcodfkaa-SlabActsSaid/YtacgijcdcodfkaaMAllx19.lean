/- The functions that the law reaches in plain Lean, and that the calls come to what these say. No condition. (By wip/myprint.py, this session's program over the kit's print.) -/
import Derived.Test.YtacgijcdcodfkaaMAllx0
import Derived.Test.YtacgijcdcodfkaaMAllx1
import Derived.Test.YtacgijcdcodfkaaMAllx4
import Derived.Test.YtacgijcdcodfkaaMAllx5
import Derived.Test.YtacgijcdcodfkaaMAllx6
import Derived.Test.YtacgijcdcodfkaaMAllx7
import Derived.Test.YtacgijcdcodfkaaMAllx8
import Derived.Test.YtacgijcdcodfkaaMAllx9
import Derived.Test.YtacgijcdcodfkaaMAllx10
import Derived.Test.YtacgijcdcodfkaaMAllx11
import Derived.Test.YtacgijcdcodfkaaMAllx12
import Derived.Test.YtacgijcdcodfkaaHndI
namespace Go.Proofs.Ytacgijcdcodfkaa.MAll
open Go.RowKit Go.Proofs.YtacgijcdcodfkaaW.PrintWords Go.Proofs.YtacgijcdcodfkaaW.PrintLast Go.Proofs.YtacgijcdcodfkaaW.PrintMore
attribute [local go_sem] max2_int min2_int max_two min_two max_three min_three max_four min_four   -- for this text's walks alone
set_option linter.unusedVariables false
set_option linter.unusedSimpArgs false

/-! ### mortmainlaw03_SlabActs: function 8, by hand -/
attribute [local go_sem high] eqA39
def mortmainlaw03_SlabActs.T10 : Bool × List (List Nat × List Nat) := (true, [([], []), ([0], [0]), ([], []), ([1, 2, 1], [1, 2]), ([3], [3]), ([4, 3], [4]), ([5], [5]), ([5], [5]), ([6, 7, 5], [5, 6, 7]), ([5, 8], [5, 8]), ([9, 5], [9]), ([10], [10]), ([10], [10]), ([11, 12, 10], [10, 11, 12]), ([10, 13], [10, 13]), ([14, 10], [14]), ([15], [15]), ([15], [15]), ([16, 17, 15], [15, 16, 17]), ([15, 18], [15, 18]), ([19, 15], [19]), ([20], [20]), ([20], [20]), ([21, 22, 20], [20, 21, 22]), ([20, 23], [20, 23]), ([24, 20], [24]), ([25], [25]), ([25], [25]), ([26, 27, 25], [25, 26, 27]), ([25, 28], [25, 28]), ([29, 25], [29]), ([30], [30]), ([30], [30]), ([31, 32, 30], [30, 31, 32]), ([30, 33], [30, 33])])
def mortmainlaw03_SlabActs.B10 : List Nat := [0, 1, 0, 7, 15, 31, 63, 63, 255, 511, 1023, 2047, 2047, 8191, 16383, 32767, 65535, 65535, 262143, 524287, 1048575, 2097151, 2097151, 8388607, 16777215, 33554431, 67108863, 67108863, 268435455, 536870911, 1073741823, 2147483647, 2147483647, 8589934591, 17179869183]
theorem mortmainlaw03_SlabActs.tab10 : rtab .any (opsOf Try.f8 10) = mortmainlaw03_SlabActs.T10 := by kernel_rfl
theorem mortmainlaw03_SlabActs.bits10 : waitsOk mortmainlaw03_SlabActs.T10.2 mortmainlaw03_SlabActs.B10 = true := by kernel_rfl
def mortmainlaw03_SlabActs.T18 : Bool × List (List Nat × List Nat) := (true, [([], []), ([0], [0]), ([], []), ([1, 2, 1], [1, 2]), ([3, 3], [3]), ([4], [4]), ([4], [4]), ([5, 6, 4], [4, 5, 6]), ([4, 7], [4, 7]), ([8, 4], [8]), ([9], [9]), ([10, 9, 9], [9, 10]), ([9], [9]), ([11, 12, 11, 9], [9, 11, 12]), ([9, 13], [9, 13]), ([14, 13], [14]), ([15], [15]), ([15], [15]), ([16, 17, 15], [15, 16, 17]), ([15, 18], [15, 18]), ([19, 15], [19]), ([20], [20]), ([21, 20, 20], [20, 21]), ([20], [20]), ([22, 23, 22, 20], [20, 22, 23]), ([20, 24], [20, 24]), ([25, 24], [25]), ([26], [26]), ([26], [26]), ([27, 28, 26], [26, 27, 28]), ([26, 29], [26, 29]), ([30, 26], [30]), ([31], [31]), ([32, 31, 31], [31, 32]), ([31], [31]), ([34, 33, 31], [31, 34]), ([33, 35, 31], [31, 33, 35]), ([31, 36], [31, 36]), ([37, 35, 0, 1, 2, 3, 4, 5, 6, 7, 8, 9, 10, 11, 12, 13, 14, 15, 16, 17, 18, 19, 20, 21, 22, 23, 24, 25, 26, 27, 28, 29, 30, 31, 32, 33, 34, 35, 36, 37], [37])])
def mortmainlaw03_SlabActs.B18 : List Nat := [0, 1, 0, 7, 15, 31, 31, 127, 255, 511, 1023, 2047, 1023, 8191, 16383, 32767, 65535, 65535, 262143, 524287, 1048575, 2097151, 4194303, 2097151, 16777215, 33554431, 67108863, 134217727, 134217727, 536870911, 1073741823, 2147483647, 4294967295, 8589934591, 4294967295, 34359738367, 68719476735, 137438953471, 274877906943]
theorem mortmainlaw03_SlabActs.tab18 : rtab .any (opsOf Try.f8 18) = mortmainlaw03_SlabActs.T18 := by kernel_rfl
theorem mortmainlaw03_SlabActs.bits18 : waitsOk mortmainlaw03_SlabActs.T18.2 mortmainlaw03_SlabActs.B18 = true := by kernel_rfl
/-- A slab in memory: a box, and what its slice reads as. -/
def Bx {α : Type} (k : Kd α) (t : Nat) (W : World) (g : Nat) (A : Option Addr) (c : Nat) (l : List α) (last : Int) : Prop := W.heap[g]? = some (.cells #[.slice A l.length c, .int .i64 last] t (0, 0)) ∧ l.length ≤ c ∧ Kd.C k W A l.length l
theorem Bx.mono49 {W W' : World} {g t c : Nat} {A : Option Addr} {l : List S49} {last : Int} (h : Bx k49 t W g A c l last) (hb : Below W.heap.size W W') : Bx k49 t W' g A c l last := ⟨blk_below h.1 hb, h.2.1, Kd.C_below h.2.2 hb⟩
theorem Bx.mono71 {W W' : World} {g t c : Nat} {A : Option Addr} {l : List S71} {last : Int} (h : Bx k71 t W g A c l last) (hb : Below W.heap.size W W') : Bx k71 t W' g A c l last := ⟨blk_below h.1 hb, h.2.1, Kd.C_below h.2.2 hb⟩
theorem Bx.c0 {α : Type} {k : Kd α} {t : Nat} {W : World} {g c : Nat} {A : Option Addr} {l : List α} {last : Int} (h : Bx k t W g A c l last) : W.cell? ⟨g, 0, none⟩ = some (.slice A l.length c) := (blk_cell h.1 0).trans rfl
theorem Bx.c1 {α : Type} {k : Kd α} {t : Nat} {W : World} {g c : Nat} {A : Option Addr} {l : List α} {last : Int} (h : Bx k t W g A c l last) : W.cell? ⟨g, 1, none⟩ = some (.int .i64 last) := (blk_cell h.1 1).trans rfl
theorem Bx.hl {α : Type} {k : Kd α} {t : Nat} {W : World} {g c : Nat} {A : Option Addr} {l : List α} {last : Int} (h : Bx k t W g A c l last) : l.length ≤ c := h.2.1
theorem Bx.hC {α : Type} {k : Kd α} {t : Nat} {W : World} {g c : Nat} {A : Option Addr} {l : List α} {last : Int} (h : Bx k t W g A c l last) : Kd.C k W A l.length l := h.2.2
theorem Bx.put {α : Type} {k : Kd α} {t : Nat} {W0 W : World} {g c : Nat} {A : Option Addr} {l : List α} {last : Int} (hg : g = W0.heap.size) (hx : W.heap[g]? = some (.cells #[.slice none 0 0, .int .i64 0] t (0, 0))) (hb : Below W0.heap.size W0 W) (hc : l.length ≤ c) (hC : Kd.C k W0 A l.length l) (hm : ∀ W', Below W0.heap.size W0 W' → Kd.C k W' A l.length l) :
    Bx k t ((W.setCell ⟨g, 0, none⟩ (.slice A l.length c)).setCell ⟨g, 1, none⟩ (.int .i64 last)) g A c l last ∧ Below W0.heap.size W0 ((W.setCell ⟨g, 0, none⟩ (.slice A l.length c)).setCell ⟨g, 1, none⟩ (.int .i64 last)) := by
  have b0 := blk_put (cs := #[.slice none 0 0, .int .i64 0]) (cs' := #[.slice A l.length c, .int .i64 0]) hx 0 (.slice A l.length c) rfl
  have b1 := blk_put (cs := #[.slice A l.length c, .int .i64 0]) (cs' := #[.slice A l.length c, .int .i64 last]) b0 1 (.int .i64 last) rfl
  have hb' := (hb.setCell (p := ⟨g, 0, none⟩) (by dsimp only; omega) (.slice A l.length c)).setCell (p := ⟨g, 1, none⟩) (by dsimp only; omega) (.int .i64 last)
  exact ⟨⟨b1, hc, hm _ hb'⟩, hb'⟩
theorem mkV49 {W : World} {A : Option Addr} {c : Nat} {l : List S49} (hC : Kd.C k49 W A l.length l) (hc : l.length ≤ c) : Kd.V k49 49 W W.heap.size (fun k_ => k_ < W.heap.size) (.slice A l.length c) l := Kd.V_mk hc (Kd.C_F k49_heap hC)
theorem mkV71 {W : World} {A : Option Addr} {c : Nat} {l : List S71} (hC : Kd.C k71 W A l.length l) (hc : l.length ≤ c) : Kd.V k71 71 W W.heap.size (fun k_ => k_ < W.heap.size) (.slice A l.length c) l := Kd.V_mk hc (Kd.C_F k71_heap hC)
theorem unV {α : Type} {d : Kd α} {t base : Nat} {W : World} {ok : Nat → Prop} {v : Value} {l : List α} (h : Kd.V d t W base ok v l) : ∃ A c, v = .slice A l.length c ∧ l.length ≤ c ∧ Kd.C d W A l.length l := by
  obtain ⟨A, c, rfl, hl, hf⟩ := h
  exact ⟨A, c, rfl, hl, (Kd.V_reads' (show Kd.V d t W base ok (.slice A l.length c) l from ⟨A, c, rfl, hl, hf⟩)).2.2⟩

theorem cTake {W : World} {A : Option Addr} {c : Nat} {l r1 : List S49} {last v r2 r3 r4 : Int} (hC : Kd.C k49 W A l.length l) (hc : l.length ≤ c) (h : slab_Take_int.f l last v = some (r1, r2, r3, r4)) :
    Calls Try.prog 16 #[.agg #[.slice A l.length c, .int .i64 last], .int .i64 v] W fun e W' => ∃ A' c', e = .returned (.tuple #[.agg #[.slice A' r1.length c', .int .i64 r2], .int .i64 r3, .int .i64 r4]) ∧ (r1.length ≤ c' ∧ Kd.C k49 W' A' r1.length r1) ∧ Below W.heap.size W W' :=
  (slab_Take_int.calls _ _ _ l last v r1 r2 r3 r4 W (mkV49 hC hc) h).mono fun e W' ⟨v0, he, hV, hb⟩ => by obtain ⟨A', c', rfl, x⟩ := unV hV; exact ⟨A', c', he, x, hb⟩
theorem cTakeR {W : World} {A : Option Addr} {c : Nat} {l r1 : List S71} {last v r2 r3 r4 : Int} (hC : Kd.C k71 W A l.length l) (hc : l.length ≤ c) (h : mortmainref03_Take.f 1000 l last v = some (r1, r2, r3, r4)) :
    Calls Try.prog 23 #[.agg #[.slice A l.length c, .int .i64 last], .int .i64 v] W fun e W' => ∃ A' c', e = .returned (.tuple #[.agg #[.slice A' r1.length c', .int .i64 r2], .int .i64 r3, .int .i64 r4]) ∧ (r1.length ≤ c' ∧ Kd.C k71 W' A' r1.length r1) ∧ Below W.heap.size W W' :=
  (mortmainref03_Take.calls 1000 _ _ _ l last v r1 r2 r3 r4 W (mkV71 hC hc) h).mono fun e W' ⟨v0, he, hV, hb⟩ => by obtain ⟨A', c', rfl, x⟩ := unV hV; exact ⟨A', c', he, x, hb⟩
theorem cSet {W : World} {A : Option Addr} {c : Nat} {l r1 : List S49} {last hh v r2 r3 : Int} (hC : Kd.C k49 W A l.length l) (hc : l.length ≤ c) (h : slab_Set_int.f l last hh v = some (r1, r2, r3)) :
    Calls Try.prog 26 #[.agg #[.slice A l.length c, .int .i64 last], .int .i64 hh, .int .i64 v] W fun e W' => ∃ A' c', e = .returned (.tuple #[.agg #[.slice A' r1.length c', .int .i64 r2], .int .i64 r3]) ∧ (r1.length ≤ c' ∧ Kd.C k49 W' A' r1.length r1) ∧ Below W.heap.size W W' :=
  (slab_Set_int.calls _ _ _ l last hh v r1 r2 r3 W (mkV49 hC hc) h).mono fun e W' ⟨v0, he, hV, hb⟩ => by obtain ⟨A', c', rfl, x⟩ := unV hV; exact ⟨A', c', he, x, hb⟩
theorem cSetR {W : World} {A : Option Addr} {c : Nat} {l r1 : List S71} {last hh v r2 r3 : Int} (hC : Kd.C k71 W A l.length l) (hc : l.length ≤ c) (h : mortmainref03_Set.f 1000 l last hh v = some (r1, r2, r3)) :
    Calls Try.prog 27 #[.agg #[.slice A l.length c, .int .i64 last], .int .i64 hh, .int .i64 v] W fun e W' => ∃ A' c', e = .returned (.tuple #[.agg #[.slice A' r1.length c', .int .i64 r2], .int .i64 r3]) ∧ (r1.length ≤ c' ∧ Kd.C k71 W' A' r1.length r1) ∧ Below W.heap.size W W' :=
  (mortmainref03_Set.calls 1000 _ _ _ l last hh v r1 r2 r3 W (mkV71 hC hc) h).mono fun e W' ⟨v0, he, hV, hb⟩ => by obtain ⟨A', c', rfl, x⟩ := unV hV; exact ⟨A', c', he, x, hb⟩
theorem cKill {W : World} {A : Option Addr} {c : Nat} {l r1 : List S49} {last hh r2 r3 : Int} (hC : Kd.C k49 W A l.length l) (hc : l.length ≤ c) (h : slab_Kill_int.f l last hh = some (r1, r2, r3)) :
    Calls Try.prog 22 #[.agg #[.slice A l.length c, .int .i64 last], .int .i64 hh] W fun e W' => ∃ A' c', e = .returned (.tuple #[.agg #[.slice A' r1.length c', .int .i64 r2], .int .i64 r3]) ∧ (r1.length ≤ c' ∧ Kd.C k49 W' A' r1.length r1) ∧ Below W.heap.size W W' :=
  (slab_Kill_int.calls _ _ _ l last hh r1 r2 r3 W (mkV49 hC hc) h).mono fun e W' ⟨v0, he, hV, hb⟩ => by obtain ⟨A', c', rfl, x⟩ := unV hV; exact ⟨A', c', he, x, hb⟩
theorem cKillR {W : World} {A : Option Addr} {c : Nat} {l r1 : List S71} {last hh r2 r3 : Int} (hC : Kd.C k71 W A l.length l) (hc : l.length ≤ c) (h : mortmainref03_Kill.f 1000 l last hh = some (r1, r2, r3)) :
    Calls Try.prog 28 #[.agg #[.slice A l.length c, .int .i64 last], .int .i64 hh] W fun e W' => ∃ A' c', e = .returned (.tuple #[.agg #[.slice A' r1.length c', .int .i64 r2], .int .i64 r3]) ∧ (r1.length ≤ c' ∧ Kd.C k71 W' A' r1.length r1) ∧ Below W.heap.size W W' :=
  (mortmainref03_Kill.calls 1000 _ _ _ l last hh r1 r2 r3 W (mkV71 hC hc) h).mono fun e W' ⟨v0, he, hV, hb⟩ => by obtain ⟨A', c', rfl, x⟩ := unV hV; exact ⟨A', c', he, x, hb⟩
theorem cGive {W : World} {A : Option Addr} {c : Nat} {l r1 : List S49} {last hh r2 r3 : Int} (hC : Kd.C k49 W A l.length l) (hc : l.length ≤ c) (h : slab_Give_int.f l last hh = some (r1, r2, r3)) :
    Calls Try.prog 17 #[.agg #[.slice A l.length c, .int .i64 last], .int .i64 hh] W fun e W' => ∃ A' c', e = .returned (.tuple #[.agg #[.slice A' r1.length c', .int .i64 r2], .int .i64 r3]) ∧ (r1.length ≤ c' ∧ Kd.C k49 W' A' r1.length r1) ∧ Below W.heap.size W W' :=
  (slab_Give_int.calls _ _ _ l last hh r1 r2 r3 W (mkV49 hC hc) h).mono fun e W' ⟨v0, he, hV, hb⟩ => by obtain ⟨A', c', rfl, x⟩ := unV hV; exact ⟨A', c', he, x, hb⟩
theorem cGiveR {W : World} {A : Option Addr} {c : Nat} {l r1 : List S71} {last hh r2 r3 : Int} (hC : Kd.C k71 W A l.length l) (hc : l.length ≤ c) (h : mortmainref03_Give.f 1000 l last hh = some (r1, r2, r3)) :
    Calls Try.prog 29 #[.agg #[.slice A l.length c, .int .i64 last], .int .i64 hh] W fun e W' => ∃ A' c', e = .returned (.tuple #[.agg #[.slice A' r1.length c', .int .i64 r2], .int .i64 r3]) ∧ (r1.length ≤ c' ∧ Kd.C k71 W' A' r1.length r1) ∧ Below W.heap.size W W' :=
  (mortmainref03_Give.calls 1000 _ _ _ l last hh r1 r2 r3 W (mkV71 hC hc) h).mono fun e W' ⟨v0, he, hV, hb⟩ => by obtain ⟨A', c', rfl, x⟩ := unV hV; exact ⟨A', c', he, x, hb⟩
theorem cIts {W : World} {A : Option Addr} {c : Nat} {l : List S49} {r1 : List S71} {last r2 : Int} (hC : Kd.C k49 W A l.length l) (hc : l.length ≤ c) (h : mortmainlaw03_its.f 1000 l last = some (r1, r2)) :
    Calls Try.prog 13 #[.agg #[.slice A l.length c, .int .i64 last]] W fun e W' => ∃ A' c', e = .returned (.agg #[.slice A' r1.length c', .int .i64 r2]) ∧ (r1.length ≤ c' ∧ Kd.C k71 W' A' r1.length r1) ∧ Below W.heap.size W W' :=
  (mortmainlaw03_its.calls 1000 _ _ l last r1 r2 W hC hc h).mono fun e W' ⟨v0, he, hV, hb⟩ => by obtain ⟨A', c', rfl, x⟩ := unV (base := W.heap.size) (Kd.R_V hV); exact ⟨A', c', he, x, hb⟩
def acts_f (l : List S49) (s h v : Int) : Option Bool := (mortmainlaw03_its.f 1000 l s).bind fun ⟨x1, x2⟩ => (slab_Take_int.f l s v).bind fun ⟨a1, a2, a3, a4⟩ => (mortmainref03_Take.f 1000 x1 x2 v).bind fun ⟨c1, c2, c3, c4⟩ => (slab_Find_int.f l s h).bind fun ⟨i1, i2⟩ => (mortmainref03_Find.f 1000 x1 x2 h).bind fun ⟨j1, j2⟩ => (slab_Get_int.f l s h).bind fun ⟨m1, m2⟩ => (mortmainref03_Get.f 1000 x1 x2 h).bind fun ⟨n1, n2⟩ => (mortmainlaw03_its.f 1000 a1 a2).bind fun ⟨ia1, ia2⟩ => (mortmainref03_Same.f 1000 ia1 ia2 c1 c2).bind fun sa => (slab_Set_int.f l s h v).bind fun ⟨p1, p2, p3⟩ => (mortmainref03_Set.f 1000 x1 x2 h v).bind fun ⟨q1, q2, q3⟩ => (slab_Kill_int.f l s h).bind fun ⟨u1, u2, u3⟩ => (mortmainref03_Kill.f 1000 x1 x2 h).bind fun ⟨y1, y2, y3⟩ => (slab_Give_int.f l s h).bind fun ⟨g1, g2, g3⟩ => (mortmainref03_Give.f 1000 x1 x2 h).bind fun ⟨z1, z2, z3⟩ => (mortmainlaw03_its.f 1000 p1 p2).bind fun ⟨ip1, ip2⟩ => (mortmainref03_Same.f 1000 ip1 ip2 q1 q2).bind fun sp => (mortmainlaw03_its.f 1000 u1 u2).bind fun ⟨iu1, iu2⟩ => (mortmainref03_Same.f 1000 iu1 iu2 y1 y2).bind fun su => (mortmainlaw03_its.f 1000 g1 g2).bind fun ⟨ig1, ig2⟩ => (mortmainref03_Same.f 1000 ig1 ig2 z1 z2).bind fun sg => (slab_Tally_int.f l s).bind fun ⟨t1, t2, t3, t4⟩ => (mortmainref03_Tally.f x1 x2).bind fun ⟨tr1, tr2, tr3, tr4⟩ => if sa = true ∧ a3 = c3 ∧ a4 = c4 ∧ i1 = j1 ∧ i2 = j2 ∧ m1 = n1 ∧ m2 = n2 ∧ sp = true ∧ p3 = q3 ∧ su = true ∧ u3 = y3 ∧ sg = true ∧ g3 = z3 ∧ t1 = tr1 ∧ t2 = tr2 ∧ t3 = tr3 ∧ t4 = tr4 then some true else none
def mortmainlaw03_SlabActs.f (l : List S49) (s h v : Int) : Option Bool := (mortmainlaw03_right.f 1000 l s).bind fun b => if b = true then acts_f l s h v else some true
theorem shown_t : mortmainlaw03_shown.f = some true := by decide +kernel
set_option maxRecDepth 100000 in
set_option maxHeartbeats 8000000 in
theorem mortmainlaw03_SlabActs.calls (A : Option Addr) (cc : Nat) (l : List S49) (s h v : Int) (r : Bool) (w : World) (hC : Kd.C k49 w A l.length l) (hc : l.length ≤ cc) (H : mortmainlaw03_SlabActs.f l s h v = some r) :
    Calls Try.prog 8 #[.agg #[.slice A l.length cc, .int .i64 s], .int .i64 h, .int .i64 v] w fun e w' => e = .returned (.bool r) ∧ Below w.heap.size w w' := by
  obtain ⟨b, hR, H⟩ := Option.bind_eq_some_iff.mp H
  obtain ⟨W, hW⟩ : ∃ W, w.alloc (.cells #[.slice A l.length cc, .int .i64 s] 24) = W := ⟨_, rfl⟩
  have HB := Aside0.mk (show Below w.heap.size w W by rw [← hW]; exact (Below.refl w.heap.size w).alloc (Nat.le_refl _) _)
  have S0 := Aside0.mk (show Bx k49 24 W w.heap.size A cc l s by rw [← hW]; exact ⟨blk_new w _, hc, Kd.C_below hC ((Below.refl w.heap.size w).alloc (Nat.le_refl _) _)⟩)
  have HW := Aside0.mk hW
  have HR := Aside0.mk hR
  clear hR hW hC hc
  cases b with
  | false =>
    rw [if_neg (by decide)] at H
    obtain rfl := Option.some.inj H
    clear H
    go_enter Try.func8, Try.ntmps8
    have c0 := S0.out.c0
    have c1 := S0.out.c1
    go_upto_region 1 with (fail)
    rw [HW.out]
    go_wp2_with (first | (go_at_call 19; refine (mortmainlaw03_right.calls 1000 _ _ l s false _ S0.out.hC S0.out.hl HR.out).mono ?_; rintro e W1 ⟨rfl, hb⟩; have HB1 := Aside0.mk (HB.out.trans (hb.mono HB.out.size)); clear hb) | (go_at_call 15; refine (mortmainlaw03_shown.calls true _ shown_t).mono ?_; rintro e W2 ⟨rfl, hb⟩; have HB2 := Aside0.mk (HB1.out.trans (hb.mono HB1.out.size)); clear hb))
    go_ret
    exact ⟨rfl, HB2.out⟩
  | true =>
    rw [if_pos rfl] at H
    unfold acts_f at H
    replace H := Option.bind_eq_some_iff.mp H
    obtain ⟨⟨x1, x2⟩, h0, H⟩ := H
    have Hx := Aside0.mk h0
    clear h0
    replace H := Option.bind_eq_some_iff.mp H
    obtain ⟨⟨a1, a2, a3, a4⟩, h0, H⟩ := H
    have Ha := Aside0.mk h0
    clear h0
    replace H := Option.bind_eq_some_iff.mp H
    obtain ⟨⟨c1, c2, c3, c4⟩, h0, H⟩ := H
    have Hc := Aside0.mk h0
    clear h0
    replace H := Option.bind_eq_some_iff.mp H
    obtain ⟨⟨i1, i2⟩, h0, H⟩ := H
    have Hi := Aside0.mk h0
    clear h0
    replace H := Option.bind_eq_some_iff.mp H
    obtain ⟨⟨j1, j2⟩, h0, H⟩ := H
    have Hj := Aside0.mk h0
    clear h0
    replace H := Option.bind_eq_some_iff.mp H
    obtain ⟨⟨m1, m2⟩, h0, H⟩ := H
    have Hm := Aside0.mk h0
    clear h0
    replace H := Option.bind_eq_some_iff.mp H
    obtain ⟨⟨n1, n2⟩, h0, H⟩ := H
    have Hn := Aside0.mk h0
    clear h0
    replace H := Option.bind_eq_some_iff.mp H
    obtain ⟨⟨ia1, ia2⟩, h0, H⟩ := H
    have Hia := Aside0.mk h0
    clear h0
    replace H := Option.bind_eq_some_iff.mp H
    obtain ⟨sa, h0, H⟩ := H
    have Hsa := Aside0.mk h0
    clear h0
    replace H := Option.bind_eq_some_iff.mp H
    obtain ⟨⟨p1, p2, p3⟩, h0, H⟩ := H
    have Hp := Aside0.mk h0
    clear h0
    replace H := Option.bind_eq_some_iff.mp H
    obtain ⟨⟨q1, q2, q3⟩, h0, H⟩ := H
    have Hq := Aside0.mk h0
    clear h0
    replace H := Option.bind_eq_some_iff.mp H
    obtain ⟨⟨u1, u2, u3⟩, h0, H⟩ := H
    have Hu := Aside0.mk h0
    clear h0
    replace H := Option.bind_eq_some_iff.mp H
    obtain ⟨⟨y1, y2, y3⟩, h0, H⟩ := H
    have Hy := Aside0.mk h0
    clear h0
    replace H := Option.bind_eq_some_iff.mp H
    obtain ⟨⟨g1, g2, g3⟩, h0, H⟩ := H
    have Hg := Aside0.mk h0
    clear h0
    replace H := Option.bind_eq_some_iff.mp H
    obtain ⟨⟨z1, z2, z3⟩, h0, H⟩ := H
    have Hz := Aside0.mk h0
    clear h0
    replace H := Option.bind_eq_some_iff.mp H
    obtain ⟨⟨ip1, ip2⟩, h0, H⟩ := H
    have Hip := Aside0.mk h0
    clear h0
    replace H := Option.bind_eq_some_iff.mp H
    obtain ⟨sp, h0, H⟩ := H
    have Hsp := Aside0.mk h0
    clear h0
    replace H := Option.bind_eq_some_iff.mp H
    obtain ⟨⟨iu1, iu2⟩, h0, H⟩ := H
    have Hiu := Aside0.mk h0
    clear h0
    replace H := Option.bind_eq_some_iff.mp H
    obtain ⟨su, h0, H⟩ := H
    have Hsu := Aside0.mk h0
    clear h0
    replace H := Option.bind_eq_some_iff.mp H
    obtain ⟨⟨ig1, ig2⟩, h0, H⟩ := H
    have Hig := Aside0.mk h0
    clear h0
    replace H := Option.bind_eq_some_iff.mp H
    obtain ⟨sg, h0, H⟩ := H
    have Hsg := Aside0.mk h0
    clear h0
    replace H := Option.bind_eq_some_iff.mp H
    obtain ⟨⟨t1, t2, t3, t4⟩, h0, H⟩ := H
    have Ht := Aside0.mk h0
    clear h0
    replace H := Option.bind_eq_some_iff.mp H
    obtain ⟨⟨tr1, tr2, tr3, tr4⟩, h0, H⟩ := H
    have Htr := Aside0.mk h0
    clear h0
    have H' : (if sa = true ∧ a3 = c3 ∧ a4 = c4 ∧ i1 = j1 ∧ i2 = j2 ∧ m1 = n1 ∧ m2 = n2 ∧ sp = true ∧ p3 = q3 ∧ su = true ∧ u3 = y3 ∧ sg = true ∧ g3 = z3 ∧ t1 = tr1 ∧ t2 = tr2 ∧ t3 = tr3 ∧ t4 = tr4 then some true else none) = some r := H
    clear H
    have hcond : sa = true ∧ a3 = c3 ∧ a4 = c4 ∧ i1 = j1 ∧ i2 = j2 ∧ m1 = n1 ∧ m2 = n2 ∧ sp = true ∧ p3 = q3 ∧ su = true ∧ u3 = y3 ∧ sg = true ∧ g3 = z3 ∧ t1 = tr1 ∧ t2 = tr2 ∧ t3 = tr3 ∧ t4 = tr4 := by
      by_cases hx : sa = true ∧ a3 = c3 ∧ a4 = c4 ∧ i1 = j1 ∧ i2 = j2 ∧ m1 = n1 ∧ m2 = n2 ∧ sp = true ∧ p3 = q3 ∧ su = true ∧ u3 = y3 ∧ sg = true ∧ g3 = z3 ∧ t1 = tr1 ∧ t2 = tr2 ∧ t3 = tr3 ∧ t4 = tr4
      · exact hx
      · rw [if_neg hx] at H'; cases H'
    rw [if_pos hcond] at H'
    obtain rfl := Option.some.inj H'
    clear H'
    obtain ⟨rfl, rfl, rfl, rfl, rfl, rfl, rfl, rfl, rfl, rfl, rfl, rfl, rfl, rfl, rfl, rfl, rfl⟩ := hcond
    go_enter Try.func8, Try.ntmps8
    have c0 := S0.out.c0
    have c1 := S0.out.c1
    go_upto_region 1 with (fail)
    rw [HW.out]
    go_upto_region 3 with (first | (go_at_call 19; refine (mortmainlaw03_right.calls 1000 _ _ l s true _ S0.out.hC S0.out.hl HR.out).mono ?_; rintro e W1 ⟨rfl, hb⟩; replace S0 := Aside0.mk (S0.out.mono49 hb); replace HB := Aside0.mk (HB.out.trans (hb.mono HB.out.size)); clear hb; clear c0 c1) | (go_at_call 15; refine (mortmainlaw03_shown.calls true _ shown_t).mono ?_; rintro e W2 ⟨rfl, hb⟩; replace S0 := Aside0.mk (S0.out.mono49 hb); replace HB := Aside0.mk (HB.out.trans (hb.mono HB.out.size)); clear hb))
    have c0S0 := S0.out.c0
    have c1S0 := S0.out.c1
    go_upto_region 4 with (first | (go_at_call 13; refine (cIts S0.out.hC S0.out.hl Hx.out).mono ?_; rintro e W3 ⟨Ax, kx, rfl, hC, hb⟩; have HCx := Aside0.mk hC; clear hC; replace S0 := Aside0.mk (S0.out.mono49 hb); replace HB := Aside0.mk (HB.out.trans (hb.mono HB.out.size)); clear hb; clear c0S0 c1S0) | ((with_reducible refine gate_dst (N := 7) rfl ?_); refine box_event ?hg (N := 7) ?hd (cs := #[.slice none 0 0, .int .i64 0]) (t := 29) ?hr ?_; (case hd => rfl); (case hg => rfl); (case hr => first | (go_simp; done) | (go_simp; rfl)); intro gx hg W4 hbox hb; have s0 := (blk_cell hbox 0).trans rfl; have s1 := (blk_cell hbox 1).trans rfl; have f0 := blk_frozen hbox 0; have f1 := blk_frozen hbox 1; have HX := Aside0.mk hbox; have HG := Aside0.mk hg; have HBX := Aside0.mk hb; clear hbox hg hb))
    have hq := Bx.put (last := x2) HG.out HX.out HBX.out HCx.out.1 HCx.out.2 (fun W' hb => Kd.C_below HCx.out.2 hb)
    clear s0 s1 f0 f1 HX HG HBX HCx
    generalize ((W4.setCell ⟨gx, 0, none⟩ (.slice Ax x1.length kx)).setCell ⟨gx, 1, none⟩ (.int .i64 x2)) = W5 at hq ⊢
    obtain ⟨hbx, hb⟩ := hq
    have Zx := Aside0.mk hbx; clear hbx; replace S0 := Aside0.mk (S0.out.mono49 hb); replace HB := Aside0.mk (HB.out.trans (hb.mono HB.out.size)); clear hb
    have c0S0 := S0.out.c0
    have c1S0 := S0.out.c1
    go_upto_region 5 with (first | (go_at_call 16; refine (cTake S0.out.hC S0.out.hl Ha.out).mono ?_; rintro e W6 ⟨Aa, ka, rfl, hC, hb⟩; have HCa := Aside0.mk hC; clear hC; replace S0 := Aside0.mk (S0.out.mono49 hb); replace Zx := Aside0.mk (Zx.out.mono71 hb); replace HB := Aside0.mk (HB.out.trans (hb.mono HB.out.size)); clear hb; clear c0S0 c1S0) | ((with_reducible refine gate_dst (N := 8) rfl ?_); refine box_event ?hg (N := 8) ?hd (cs := #[.slice none 0 0, .int .i64 0]) (t := 24) ?hr ?_; (case hd => rfl); (case hg => rfl); (case hr => first | (go_simp; done) | (go_simp; rfl)); intro ga hg W7 hbox hb; have s0 := (blk_cell hbox 0).trans rfl; have s1 := (blk_cell hbox 1).trans rfl; have f0 := blk_frozen hbox 0; have f1 := blk_frozen hbox 1; have HX := Aside0.mk hbox; have HG := Aside0.mk hg; have HBX := Aside0.mk hb; clear hbox hg hb))
    have hq := Bx.put (last := a2) HG.out HX.out HBX.out HCa.out.1 HCa.out.2 (fun W' hb => Kd.C_below HCa.out.2 hb)
    clear s0 s1 f0 f1 HX HG HBX HCa
    generalize ((W7.setCell ⟨ga, 0, none⟩ (.slice Aa a1.length ka)).setCell ⟨ga, 1, none⟩ (.int .i64 a2)) = W8 at hq ⊢
    obtain ⟨hbx, hb⟩ := hq
    have Za := Aside0.mk hbx; clear hbx; replace S0 := Aside0.mk (S0.out.mono49 hb); replace Zx := Aside0.mk (Zx.out.mono71 hb); replace HB := Aside0.mk (HB.out.trans (hb.mono HB.out.size)); clear hb
    have c0Zx := Zx.out.c0
    have c1Zx := Zx.out.c1
    go_upto_region 6 with (first | (go_at_call 23; refine (cTakeR Zx.out.hC Zx.out.hl Hc.out).mono ?_; rintro e W9 ⟨Ac, kc, rfl, hC, hb⟩; have HCc := Aside0.mk hC; clear hC; replace S0 := Aside0.mk (S0.out.mono49 hb); replace Zx := Aside0.mk (Zx.out.mono71 hb); replace Za := Aside0.mk (Za.out.mono49 hb); replace HB := Aside0.mk (HB.out.trans (hb.mono HB.out.size)); clear hb; clear c0Zx c1Zx) | ((with_reducible refine gate_dst (N := 11) rfl ?_); refine box_event ?hg (N := 11) ?hd (cs := #[.slice none 0 0, .int .i64 0]) (t := 29) ?hr ?_; (case hd => rfl); (case hg => rfl); (case hr => first | (go_simp; done) | (go_simp; rfl)); intro gc hg W10 hbox hb; have s0 := (blk_cell hbox 0).trans rfl; have s1 := (blk_cell hbox 1).trans rfl; have f0 := blk_frozen hbox 0; have f1 := blk_frozen hbox 1; have HX := Aside0.mk hbox; have HG := Aside0.mk hg; have HBX := Aside0.mk hb; clear hbox hg hb))
    have hq := Bx.put (last := c2) HG.out HX.out HBX.out HCc.out.1 HCc.out.2 (fun W' hb => Kd.C_below HCc.out.2 hb)
    clear s0 s1 f0 f1 HX HG HBX HCc
    generalize ((W10.setCell ⟨gc, 0, none⟩ (.slice Ac c1.length kc)).setCell ⟨gc, 1, none⟩ (.int .i64 c2)) = W11 at hq ⊢
    obtain ⟨hbx, hb⟩ := hq
    have Zc := Aside0.mk hbx; clear hbx; replace S0 := Aside0.mk (S0.out.mono49 hb); replace Zx := Aside0.mk (Zx.out.mono71 hb); replace Za := Aside0.mk (Za.out.mono49 hb); replace HB := Aside0.mk (HB.out.trans (hb.mono HB.out.size)); clear hb
    have c0S0 := S0.out.c0
    have c1S0 := S0.out.c1
    go_upto_region 7 with (first | (go_at_call 21; refine (slab_Find_int.calls _ _ l s h i1 i2 _ S0.out.hC S0.out.hl Hi.out).mono ?_; rintro e W12 ⟨rfl, hb⟩; replace S0 := Aside0.mk (S0.out.mono49 hb); replace Zx := Aside0.mk (Zx.out.mono71 hb); replace Za := Aside0.mk (Za.out.mono49 hb); replace Zc := Aside0.mk (Zc.out.mono71 hb); replace HB := Aside0.mk (HB.out.trans (hb.mono HB.out.size)); clear hb; clear c0S0 c1S0))
    have c0Zx := Zx.out.c0
    have c1Zx := Zx.out.c1
    go_upto_region 8 with (first | (go_at_call 24; refine (mortmainref03_Find.calls 1000 _ _ x1 x2 h i1 i2 _ Zx.out.hC Zx.out.hl Hj.out).mono ?_; rintro e W13 ⟨rfl, hb⟩; replace S0 := Aside0.mk (S0.out.mono49 hb); replace Zx := Aside0.mk (Zx.out.mono71 hb); replace Za := Aside0.mk (Za.out.mono49 hb); replace Zc := Aside0.mk (Zc.out.mono71 hb); replace HB := Aside0.mk (HB.out.trans (hb.mono HB.out.size)); clear hb; clear c0Zx c1Zx))
    have c0S0 := S0.out.c0
    have c1S0 := S0.out.c1
    go_upto_region 9 with (first | (go_at_call 20; refine (slab_Get_int.calls _ _ l s h m1 m2 _ S0.out.hC S0.out.hl Hm.out).mono ?_; rintro e W14 ⟨rfl, hb⟩; replace S0 := Aside0.mk (S0.out.mono49 hb); replace Zx := Aside0.mk (Zx.out.mono71 hb); replace Za := Aside0.mk (Za.out.mono49 hb); replace Zc := Aside0.mk (Zc.out.mono71 hb); replace HB := Aside0.mk (HB.out.trans (hb.mono HB.out.size)); clear hb; clear c0S0 c1S0))
    have c0Zx := Zx.out.c0
    have c1Zx := Zx.out.c1
    go_upto_region 10 with (first | (go_at_call 25; refine (mortmainref03_Get.calls 1000 _ _ x1 x2 h m1 m2 _ Zx.out.hC Zx.out.hl Hn.out).mono ?_; rintro e W15 ⟨rfl, hb⟩; replace S0 := Aside0.mk (S0.out.mono49 hb); replace Zx := Aside0.mk (Zx.out.mono71 hb); replace Za := Aside0.mk (Za.out.mono49 hb); replace Zc := Aside0.mk (Zc.out.mono71 hb); replace HB := Aside0.mk (HB.out.trans (hb.mono HB.out.size)); clear hb; clear c0Zx c1Zx))
    have hb : Below W15.heap.size W15 W15.drew := below_drew1 (Below.refl _ _)
    replace S0 := Aside0.mk (S0.out.mono49 hb); replace Zx := Aside0.mk (Zx.out.mono71 hb); replace Za := Aside0.mk (Za.out.mono49 hb); replace Zc := Aside0.mk (Zc.out.mono71 hb); replace HB := Aside0.mk (HB.out.trans (hb.mono HB.out.size)); clear hb
    refine start_ (n := 35) (S := fun w' => w'.cell? ⟨ga, 0, none⟩ = some (.slice Aa a1.length ka) ∧ w'.cell? ⟨ga, 1, none⟩ = some (.int .i64 a2) ∧ w'.cell? ⟨gc, 0, none⟩ = some (.slice Ac c1.length kc) ∧ w'.cell? ⟨gc, 1, none⟩ = some (.int .i64 c2)) (ds := []) #[false, false, false, false, false, false, false, false, false, false, false, false, false, false, false, false, false, false, false, false, false, false, false, false, false, false, false, false, false, false, false, false, false, false, false] (by kernel_rfl) rfl rfl ⟨Za.out.c0, Za.out.c1, Zc.out.c0, Zc.out.c1⟩ (fun hHeld => ?_)
    refine with_tabW mortmainlaw03_SlabActs.tab10 mortmainlaw03_SlabActs.bits10 (fun HT_ HW_ => ?_)
    generalize W15.drew = W16 at S0 Zx Za Zc HB hHeld ⊢
    refine take_ (i := 0) (N := some 82) (v := ?_) (a' := ?_) #[true, false, false, false, false, false, false, false, false, false, false, false, false, false, false, false, false, false, false, false, false, false, false, false, false, false, false, false, false, false, false, false, false, false, false] rfl rfl (take_ofW HT_.out HW_.out (by kernel_rfl)) (fun _ _ _ h => h) (Or.inl ⟨by rfl, ?_⟩) hHeld ?_ ?_
    rotate_left
    · rintro w' ⟨s0, s1, s2, s3⟩; go_simp; with_reducible rfl
    rotate_left
    · simp only [Act.put, List.setIfInBounds_toArray, List.set_cons_zero, List.set_cons_succ, i64_w, i32_w]
      rfl
    refine take_ (i := 2) (N := some 84) (v := ?_) (a' := ?_) #[true, false, true, false, false, false, false, false, false, false, false, false, false, false, false, false, false, false, false, false, false, false, false, false, false, false, false, false, false, false, false, false, false, false, false] rfl rfl (take_ofW HT_.out HW_.out (by kernel_rfl)) (fun _ _ _ h => h) (Or.inl ⟨by rfl, ?_⟩) hHeld ?_ ?_
    rotate_left
    · rintro w' ⟨s0, s1, s2, s3⟩; go_simp; with_reducible rfl
    rotate_left
    · simp only [Act.put, List.setIfInBounds_toArray, List.set_cons_zero, List.set_cons_succ, i64_w, i32_w]
      rfl
    refine one_ (i := 1) (N := some 83) #[true, true, true, false, false, false, false, false, false, false, false, false, false, false, false, false, false, false, false, false, false, false, false, false, false, false, false, false, false, false, false, false, false, false, false] rfl rfl (one_of HT_.out (by kernel_rfl)) (by decide) (fun K hK => ?_)
    refine goes_ Try.func13 (by kernel_rfl) rfl #[.agg #[.slice Aa a1.length ka, .int .i64 a2]] (by rfl) rfl rfl (by (try simp only [List.map_toArray, List.map_cons, List.map_nil]); first | done | rfl) ?_
    with_reducible refine (cIts Za.out.hC Za.out.hl Hia.out).mono ?_
    rintro e W17 ⟨Aia, kia, rfl, hC, hb⟩
    refine ⟨_, rfl, ?_⟩
    have HCia := Aside0.mk hC
    clear hC
    replace S0 := Aside0.mk (S0.out.mono49 hb); replace Zx := Aside0.mk (Zx.out.mono71 hb); replace Za := Aside0.mk (Za.out.mono49 hb); replace Zc := Aside0.mk (Zc.out.mono71 hb); replace HB := Aside0.mk (HB.out.trans (hb.mono HB.out.size)); clear hb
    refine hK.out _ _ ⟨Za.out.c0, Za.out.c1, Zc.out.c0, Zc.out.c1⟩ (fun hHeld => ?_)
    clear hK K
    refine norm_ (a' := ?_) ?_ ?_
    rotate_left
    · show Act.put _ (some 83) _ = _
      simp only [Act.put, List.setIfInBounds_toArray, List.set_cons_zero, List.set_cons_succ, i64_w, i32_w]
      rfl
    refine one_ (i := 3) (N := some 85) #[true, true, true, true, false, false, false, false, false, false, false, false, false, false, false, false, false, false, false, false, false, false, false, false, false, false, false, false, false, false, false, false, false, false, false] rfl rfl (one_of HT_.out (by kernel_rfl)) (by decide) (fun K hK => ?_)
    refine goes_ Try.func12 (by kernel_rfl) rfl #[.agg #[.slice Aia ia1.length kia, .int .i64 ia2], .agg #[.slice Ac c1.length kc, .int .i64 c2]] (by rfl) rfl rfl (by (try simp only [List.map_toArray, List.map_cons, List.map_nil]); first | done | rfl) ?_
    with_reducible refine (mortmainref03_Same.calls 1000 _ _ ia1 ia2 _ _ c1 c2 true _ HCia.out.2 HCia.out.1 Zc.out.hC Zc.out.hl Hsa.out).mono ?_
    rintro e W18 ⟨rfl, hb⟩
    refine ⟨_, rfl, ?_⟩
    replace S0 := Aside0.mk (S0.out.mono49 hb); replace Zx := Aside0.mk (Zx.out.mono71 hb); replace Za := Aside0.mk (Za.out.mono49 hb); replace Zc := Aside0.mk (Zc.out.mono71 hb); replace HB := Aside0.mk (HB.out.trans (hb.mono HB.out.size)); clear hb
    refine hK.out _ _ ⟨Za.out.c0, Za.out.c1, Zc.out.c0, Zc.out.c1⟩ (fun hHeld => ?_)
    clear hK K
    refine norm_ (a' := ?_) ?_ ?_
    rotate_left
    · show Act.put _ (some 85) _ = _
      simp only [Act.put, List.setIfInBounds_toArray, List.set_cons_zero, List.set_cons_succ, i64_w, i32_w]
      rfl
    refine pure_ (i := 4) (N := some 86) (v := ?_) (a' := ?_) #[true, true, true, true, true, false, false, false, false, false, false, false, false, false, false, false, false, false, false, false, false, false, false, false, false, false, false, false, false, false, false, false, false, false, false] rfl rfl (any_of HT_.out (by kernel_rfl)) (fun _ _ _ h => h) (Or.inl ⟨by rfl, ?_⟩) ?_ ?_
    rotate_left
    · intro w'; go_simp; with_reducible rfl
    rotate_left
    · simp only [Act.put, List.setIfInBounds_toArray, List.set_cons_zero, List.set_cons_succ, i64_w, i32_w]
      rfl
    refine pure_ (i := 5) (N := some 87) (v := ?_) (a' := ?_) #[true, true, true, true, true, true, false, false, false, false, false, false, false, false, false, false, false, false, false, false, false, false, false, false, false, false, false, false, false, false, false, false, false, false, false] rfl rfl (any_of HT_.out (by kernel_rfl)) (fun _ _ _ h => h) (Or.inl ⟨by rfl, ?_⟩) ?_ ?_
    rotate_left
    · intro w'; go_simp; with_reducible rfl
    rotate_left
    · simp only [Act.put, List.setIfInBounds_toArray, List.set_cons_zero, List.set_cons_succ, i64_w, i32_w]
      rfl
    refine pure_ (i := 6) (N := some 88) (v := ?_) (a' := ?_) #[true, true, true, true, true, true, true, false, false, false, false, false, false, false, false, false, false, false, false, false, false, false, false, false, false, false, false, false, false, false, false, false, false, false, false] rfl rfl (any_of HT_.out (by kernel_rfl)) (fun _ _ _ h => h) (Or.inl ⟨by rfl, ?_⟩) ?_ ?_
    rotate_left
    · intro w'; go_simp; with_reducible rfl
    rotate_left
    · simp only [Act.put, List.setIfInBounds_toArray, List.set_cons_zero, List.set_cons_succ, i64_w, i32_w]
      rfl
    refine pure_ (i := 7) (N := some 89) (v := ?_) (a' := ?_) #[true, true, true, true, true, true, true, true, false, false, false, false, false, false, false, false, false, false, false, false, false, false, false, false, false, false, false, false, false, false, false, false, false, false, false] rfl rfl (any_of HT_.out (by kernel_rfl)) (fun _ _ _ h => h) (Or.inl ⟨by rfl, ?_⟩) ?_ ?_
    rotate_left
    · intro w'; go_simp; with_reducible rfl
    rotate_left
    · simp only [Act.put, List.setIfInBounds_toArray, List.set_cons_zero, List.set_cons_succ, i64_w, i32_w]
      rfl
    refine pure_ (i := 8) (N := some 90) (v := ?_) (a' := ?_) #[true, true, true, true, true, true, true, true, true, false, false, false, false, false, false, false, false, false, false, false, false, false, false, false, false, false, false, false, false, false, false, false, false, false, false] rfl rfl (any_of HT_.out (by kernel_rfl)) (fun _ _ _ h => h) (Or.inl ⟨by rfl, ?_⟩) ?_ ?_
    rotate_left
    · intro w'; go_simp; with_reducible rfl
    rotate_left
    · simp only [Act.put, List.setIfInBounds_toArray, List.set_cons_zero, List.set_cons_succ, i64_w, i32_w]
      rfl
    refine pure_ (i := 9) (N := some 91) (v := ?_) (a' := ?_) #[true, true, true, true, true, true, true, true, true, true, false, false, false, false, false, false, false, false, false, false, false, false, false, false, false, false, false, false, false, false, false, false, false, false, false] rfl rfl (any_of HT_.out (by kernel_rfl)) (fun _ _ _ h => h) (Or.inl ⟨by rfl, ?_⟩) ?_ ?_
    rotate_left
    · intro w'; go_simp; with_reducible rfl
    rotate_left
    · simp only [Act.put, List.setIfInBounds_toArray, List.set_cons_zero, List.set_cons_succ, i64_w, i32_w]
      rfl
    refine pure_ (i := 10) (N := some 92) (v := ?_) (a' := ?_) #[true, true, true, true, true, true, true, true, true, true, true, false, false, false, false, false, false, false, false, false, false, false, false, false, false, false, false, false, false, false, false, false, false, false, false] rfl rfl (any_of HT_.out (by kernel_rfl)) (fun _ _ _ h => h) (Or.inl ⟨by rfl, ?_⟩) ?_ ?_
    rotate_left
    · intro w'; go_simp; with_reducible rfl
    rotate_left
    · simp only [Act.put, List.setIfInBounds_toArray, List.set_cons_zero, List.set_cons_succ, i64_w, i32_w]
      rfl
    refine pure_ (i := 11) (N := some 93) (v := ?_) (a' := ?_) #[true, true, true, true, true, true, true, true, true, true, true, true, false, false, false, false, false, false, false, false, false, false, false, false, false, false, false, false, false, false, false, false, false, false, false] rfl rfl (any_of HT_.out (by kernel_rfl)) (fun _ _ _ h => h) (Or.inl ⟨by rfl, ?_⟩) ?_ ?_
    rotate_left
    · intro w'; go_simp; with_reducible rfl
    rotate_left
    · simp only [Act.put, List.setIfInBounds_toArray, List.set_cons_zero, List.set_cons_succ, i64_w, i32_w]
      rfl
    refine pure_ (i := 12) (N := some 94) (v := ?_) (a' := ?_) #[true, true, true, true, true, true, true, true, true, true, true, true, true, false, false, false, false, false, false, false, false, false, false, false, false, false, false, false, false, false, false, false, false, false, false] rfl rfl (any_of HT_.out (by kernel_rfl)) (fun _ _ _ h => h) (Or.inl ⟨by rfl, ?_⟩) ?_ ?_
    rotate_left
    · intro w'; go_simp; with_reducible rfl
    rotate_left
    · simp only [Act.put, List.setIfInBounds_toArray, List.set_cons_zero, List.set_cons_succ, i64_w, i32_w]
      rfl
    refine pure_ (i := 13) (N := some 95) (v := ?_) (a' := ?_) #[true, true, true, true, true, true, true, true, true, true, true, true, true, true, false, false, false, false, false, false, false, false, false, false, false, false, false, false, false, false, false, false, false, false, false] rfl rfl (any_of HT_.out (by kernel_rfl)) (fun _ _ _ h => h) (Or.inl ⟨by rfl, ?_⟩) ?_ ?_
    rotate_left
    · intro w'; go_simp; with_reducible rfl
    rotate_left
    · simp only [Act.put, List.setIfInBounds_toArray, List.set_cons_zero, List.set_cons_succ, i64_w, i32_w]
      rfl
    refine pure_ (i := 14) (N := some 96) (v := ?_) (a' := ?_) #[true, true, true, true, true, true, true, true, true, true, true, true, true, true, true, false, false, false, false, false, false, false, false, false, false, false, false, false, false, false, false, false, false, false, false] rfl rfl (any_of HT_.out (by kernel_rfl)) (fun _ _ _ h => h) (Or.inl ⟨by rfl, ?_⟩) ?_ ?_
    rotate_left
    · intro w'; go_simp; with_reducible rfl
    rotate_left
    · simp only [Act.put, List.setIfInBounds_toArray, List.set_cons_zero, List.set_cons_succ, i64_w, i32_w]
      rfl
    refine pure_ (i := 15) (N := some 97) (v := ?_) (a' := ?_) #[true, true, true, true, true, true, true, true, true, true, true, true, true, true, true, true, false, false, false, false, false, false, false, false, false, false, false, false, false, false, false, false, false, false, false] rfl rfl (any_of HT_.out (by kernel_rfl)) (fun _ _ _ h => h) (Or.inl ⟨by rfl, ?_⟩) ?_ ?_
    rotate_left
    · intro w'; go_simp; with_reducible rfl
    rotate_left
    · simp only [Act.put, List.setIfInBounds_toArray, List.set_cons_zero, List.set_cons_succ, i64_w, i32_w]
      rfl
    refine pure_ (i := 16) (N := some 98) (v := ?_) (a' := ?_) #[true, true, true, true, true, true, true, true, true, true, true, true, true, true, true, true, true, false, false, false, false, false, false, false, false, false, false, false, false, false, false, false, false, false, false] rfl rfl (any_of HT_.out (by kernel_rfl)) (fun _ _ _ h => h) (Or.inl ⟨by rfl, ?_⟩) ?_ ?_
    rotate_left
    · intro w'; go_simp; with_reducible rfl
    rotate_left
    · simp only [Act.put, List.setIfInBounds_toArray, List.set_cons_zero, List.set_cons_succ, i64_w, i32_w]
      rfl
    refine pure_ (i := 17) (N := some 99) (v := ?_) (a' := ?_) #[true, true, true, true, true, true, true, true, true, true, true, true, true, true, true, true, true, true, false, false, false, false, false, false, false, false, false, false, false, false, false, false, false, false, false] rfl rfl (any_of HT_.out (by kernel_rfl)) (fun _ _ _ h => h) (Or.inl ⟨by rfl, ?_⟩) ?_ ?_
    rotate_left
    · intro w'; go_simp; with_reducible rfl
    rotate_left
    · simp only [Act.put, List.setIfInBounds_toArray, List.set_cons_zero, List.set_cons_succ, i64_w, i32_w]
      rfl
    refine pure_ (i := 18) (N := some 100) (v := ?_) (a' := ?_) #[true, true, true, true, true, true, true, true, true, true, true, true, true, true, true, true, true, true, true, false, false, false, false, false, false, false, false, false, false, false, false, false, false, false, false] rfl rfl (any_of HT_.out (by kernel_rfl)) (fun _ _ _ h => h) (Or.inl ⟨by rfl, ?_⟩) ?_ ?_
    rotate_left
    · intro w'; go_simp; with_reducible rfl
    rotate_left
    · simp only [Act.put, List.setIfInBounds_toArray, List.set_cons_zero, List.set_cons_succ, i64_w, i32_w]
      rfl
    refine pure_ (i := 19) (N := some 101) (v := ?_) (a' := ?_) #[true, true, true, true, true, true, true, true, true, true, true, true, true, true, true, true, true, true, true, true, false, false, false, false, false, false, false, false, false, false, false, false, false, false, false] rfl rfl (any_of HT_.out (by kernel_rfl)) (fun _ _ _ h => h) (Or.inl ⟨by rfl, ?_⟩) ?_ ?_
    rotate_left
    · intro w'; go_simp; with_reducible rfl
    rotate_left
    · simp only [Act.put, List.setIfInBounds_toArray, List.set_cons_zero, List.set_cons_succ, i64_w, i32_w]
      rfl
    refine pure_ (i := 20) (N := some 102) (v := ?_) (a' := ?_) #[true, true, true, true, true, true, true, true, true, true, true, true, true, true, true, true, true, true, true, true, true, false, false, false, false, false, false, false, false, false, false, false, false, false, false] rfl rfl (any_of HT_.out (by kernel_rfl)) (fun _ _ _ h => h) (Or.inl ⟨by rfl, ?_⟩) ?_ ?_
    rotate_left
    · intro w'; go_simp; with_reducible rfl
    rotate_left
    · simp only [Act.put, List.setIfInBounds_toArray, List.set_cons_zero, List.set_cons_succ, i64_w, i32_w]
      rfl
    refine pure_ (i := 21) (N := some 103) (v := ?_) (a' := ?_) #[true, true, true, true, true, true, true, true, true, true, true, true, true, true, true, true, true, true, true, true, true, true, false, false, false, false, false, false, false, false, false, false, false, false, false] rfl rfl (any_of HT_.out (by kernel_rfl)) (fun _ _ _ h => h) (Or.inl ⟨by rfl, ?_⟩) ?_ ?_
    rotate_left
    · intro w'; go_simp; with_reducible rfl
    rotate_left
    · simp only [Act.put, List.setIfInBounds_toArray, List.set_cons_zero, List.set_cons_succ, i64_w, i32_w]
      rfl
    refine pure_ (i := 22) (N := some 104) (v := ?_) (a' := ?_) #[true, true, true, true, true, true, true, true, true, true, true, true, true, true, true, true, true, true, true, true, true, true, true, false, false, false, false, false, false, false, false, false, false, false, false] rfl rfl (any_of HT_.out (by kernel_rfl)) (fun _ _ _ h => h) (Or.inl ⟨by rfl, ?_⟩) ?_ ?_
    rotate_left
    · intro w'; go_simp; with_reducible rfl
    rotate_left
    · simp only [Act.put, List.setIfInBounds_toArray, List.set_cons_zero, List.set_cons_succ, i64_w, i32_w]
      rfl
    refine pure_ (i := 23) (N := some 105) (v := ?_) (a' := ?_) #[true, true, true, true, true, true, true, true, true, true, true, true, true, true, true, true, true, true, true, true, true, true, true, true, false, false, false, false, false, false, false, false, false, false, false] rfl rfl (any_of HT_.out (by kernel_rfl)) (fun _ _ _ h => h) (Or.inl ⟨by rfl, ?_⟩) ?_ ?_
    rotate_left
    · intro w'; go_simp; with_reducible rfl
    rotate_left
    · simp only [Act.put, List.setIfInBounds_toArray, List.set_cons_zero, List.set_cons_succ, i64_w, i32_w]
      rfl
    refine pure_ (i := 24) (N := some 106) (v := ?_) (a' := ?_) #[true, true, true, true, true, true, true, true, true, true, true, true, true, true, true, true, true, true, true, true, true, true, true, true, true, false, false, false, false, false, false, false, false, false, false] rfl rfl (any_of HT_.out (by kernel_rfl)) (fun _ _ _ h => h) (Or.inl ⟨by rfl, ?_⟩) ?_ ?_
    rotate_left
    · intro w'; go_simp; with_reducible rfl
    rotate_left
    · simp only [Act.put, List.setIfInBounds_toArray, List.set_cons_zero, List.set_cons_succ, i64_w, i32_w]
      rfl
    refine pure_ (i := 25) (N := some 107) (v := ?_) (a' := ?_) #[true, true, true, true, true, true, true, true, true, true, true, true, true, true, true, true, true, true, true, true, true, true, true, true, true, true, false, false, false, false, false, false, false, false, false] rfl rfl (any_of HT_.out (by kernel_rfl)) (fun _ _ _ h => h) (Or.inl ⟨by rfl, ?_⟩) ?_ ?_
    rotate_left
    · intro w'; go_simp; with_reducible rfl
    rotate_left
    · simp only [Act.put, List.setIfInBounds_toArray, List.set_cons_zero, List.set_cons_succ, i64_w, i32_w]
      rfl
    refine pure_ (i := 26) (N := some 108) (v := ?_) (a' := ?_) #[true, true, true, true, true, true, true, true, true, true, true, true, true, true, true, true, true, true, true, true, true, true, true, true, true, true, true, false, false, false, false, false, false, false, false] rfl rfl (any_of HT_.out (by kernel_rfl)) (fun _ _ _ h => h) (Or.inl ⟨by rfl, ?_⟩) ?_ ?_
    rotate_left
    · intro w'; go_simp; with_reducible rfl
    rotate_left
    · simp only [Act.put, List.setIfInBounds_toArray, List.set_cons_zero, List.set_cons_succ, i64_w, i32_w]
      rfl
    refine pure_ (i := 27) (N := some 109) (v := ?_) (a' := ?_) #[true, true, true, true, true, true, true, true, true, true, true, true, true, true, true, true, true, true, true, true, true, true, true, true, true, true, true, true, false, false, false, false, false, false, false] rfl rfl (any_of HT_.out (by kernel_rfl)) (fun _ _ _ h => h) (Or.inl ⟨by rfl, ?_⟩) ?_ ?_
    rotate_left
    · intro w'; go_simp; with_reducible rfl
    rotate_left
    · simp only [Act.put, List.setIfInBounds_toArray, List.set_cons_zero, List.set_cons_succ, i64_w, i32_w]
      rfl
    refine pure_ (i := 28) (N := some 110) (v := ?_) (a' := ?_) #[true, true, true, true, true, true, true, true, true, true, true, true, true, true, true, true, true, true, true, true, true, true, true, true, true, true, true, true, true, false, false, false, false, false, false] rfl rfl (any_of HT_.out (by kernel_rfl)) (fun _ _ _ h => h) (Or.inl ⟨by rfl, ?_⟩) ?_ ?_
    rotate_left
    · intro w'; go_simp; with_reducible rfl
    rotate_left
    · simp only [Act.put, List.setIfInBounds_toArray, List.set_cons_zero, List.set_cons_succ, i64_w, i32_w]
      rfl
    refine pure_ (i := 29) (N := some 111) (v := ?_) (a' := ?_) #[true, true, true, true, true, true, true, true, true, true, true, true, true, true, true, true, true, true, true, true, true, true, true, true, true, true, true, true, true, true, false, false, false, false, false] rfl rfl (any_of HT_.out (by kernel_rfl)) (fun _ _ _ h => h) (Or.inl ⟨by rfl, ?_⟩) ?_ ?_
    rotate_left
    · intro w'; go_simp; with_reducible rfl
    rotate_left
    · simp only [Act.put, List.setIfInBounds_toArray, List.set_cons_zero, List.set_cons_succ, i64_w, i32_w]
      rfl
    refine pure_ (i := 30) (N := some 112) (v := ?_) (a' := ?_) #[true, true, true, true, true, true, true, true, true, true, true, true, true, true, true, true, true, true, true, true, true, true, true, true, true, true, true, true, true, true, true, false, false, false, false] rfl rfl (any_of HT_.out (by kernel_rfl)) (fun _ _ _ h => h) (Or.inl ⟨by rfl, ?_⟩) ?_ ?_
    rotate_left
    · intro w'; go_simp; with_reducible rfl
    rotate_left
    · simp only [Act.put, List.setIfInBounds_toArray, List.set_cons_zero, List.set_cons_succ, i64_w, i32_w]
      rfl
    refine pure_ (i := 31) (N := some 113) (v := ?_) (a' := ?_) #[true, true, true, true, true, true, true, true, true, true, true, true, true, true, true, true, true, true, true, true, true, true, true, true, true, true, true, true, true, true, true, true, false, false, false] rfl rfl (any_of HT_.out (by kernel_rfl)) (fun _ _ _ h => h) (Or.inl ⟨by rfl, ?_⟩) ?_ ?_
    rotate_left
    · intro w'; go_simp; with_reducible rfl
    rotate_left
    · simp only [Act.put, List.setIfInBounds_toArray, List.set_cons_zero, List.set_cons_succ, i64_w, i32_w]
      rfl
    refine pure_ (i := 32) (N := some 114) (v := ?_) (a' := ?_) #[true, true, true, true, true, true, true, true, true, true, true, true, true, true, true, true, true, true, true, true, true, true, true, true, true, true, true, true, true, true, true, true, true, false, false] rfl rfl (any_of HT_.out (by kernel_rfl)) (fun _ _ _ h => h) (Or.inl ⟨by rfl, ?_⟩) ?_ ?_
    rotate_left
    · intro w'; go_simp; with_reducible rfl
    rotate_left
    · simp only [Act.put, List.setIfInBounds_toArray, List.set_cons_zero, List.set_cons_succ, i64_w, i32_w]
      rfl
    refine pure_ (i := 33) (N := some 115) (v := ?_) (a' := ?_) #[true, true, true, true, true, true, true, true, true, true, true, true, true, true, true, true, true, true, true, true, true, true, true, true, true, true, true, true, true, true, true, true, true, true, false] rfl rfl (any_of HT_.out (by kernel_rfl)) (fun _ _ _ h => h) (Or.inl ⟨by rfl, ?_⟩) ?_ ?_
    rotate_left
    · intro w'; go_simp; with_reducible rfl
    rotate_left
    · simp only [Act.put, List.setIfInBounds_toArray, List.set_cons_zero, List.set_cons_succ, i64_w, i32_w]
      rfl
    refine pure_ (i := 34) (N := some 116) (v := ?_) (a' := ?_) #[true, true, true, true, true, true, true, true, true, true, true, true, true, true, true, true, true, true, true, true, true, true, true, true, true, true, true, true, true, true, true, true, true, true, true] rfl rfl (any_of HT_.out (by kernel_rfl)) (fun _ _ _ h => h) (Or.inl ⟨by rfl, ?_⟩) ?_ ?_
    rotate_left
    · intro w'; go_simp; with_reducible rfl
    rotate_left
    · simp only [Act.put, List.setIfInBounds_toArray, List.set_cons_zero, List.set_cons_succ, i64_w, i32_w]
      rfl
    refine done_ (done_of HT_.out (by kernel_rfl)) ?_
    clear Za Zc HCia hHeld HT_ HW_
    go_upto_region 12 with (fail)
    have c0S0 := S0.out.c0
    have c1S0 := S0.out.c1
    go_upto_region 13 with (first | (go_at_call 26; refine (cSet S0.out.hC S0.out.hl Hp.out).mono ?_; rintro e W19 ⟨Ap, kp, rfl, hC, hb⟩; have HCp := Aside0.mk hC; clear hC; replace S0 := Aside0.mk (S0.out.mono49 hb); replace Zx := Aside0.mk (Zx.out.mono71 hb); replace HB := Aside0.mk (HB.out.trans (hb.mono HB.out.size)); clear hb; clear c0S0 c1S0) | ((with_reducible refine gate_dst (N := 22) rfl ?_); refine box_event ?hg (N := 22) ?hd (cs := #[.slice none 0 0, .int .i64 0]) (t := 24) ?hr ?_; (case hd => rfl); (case hg => rfl); (case hr => first | (go_simp; done) | (go_simp; rfl)); intro gp hg W20 hbox hb; have s0 := (blk_cell hbox 0).trans rfl; have s1 := (blk_cell hbox 1).trans rfl; have f0 := blk_frozen hbox 0; have f1 := blk_frozen hbox 1; have HX := Aside0.mk hbox; have HG := Aside0.mk hg; have HBX := Aside0.mk hb; clear hbox hg hb))
    have hq := Bx.put (last := p2) HG.out HX.out HBX.out HCp.out.1 HCp.out.2 (fun W' hb => Kd.C_below HCp.out.2 hb)
    clear s0 s1 f0 f1 HX HG HBX HCp
    generalize ((W20.setCell ⟨gp, 0, none⟩ (.slice Ap p1.length kp)).setCell ⟨gp, 1, none⟩ (.int .i64 p2)) = W21 at hq ⊢
    obtain ⟨hbx, hb⟩ := hq
    have Zp := Aside0.mk hbx; clear hbx; replace S0 := Aside0.mk (S0.out.mono49 hb); replace Zx := Aside0.mk (Zx.out.mono71 hb); replace HB := Aside0.mk (HB.out.trans (hb.mono HB.out.size)); clear hb
    have c0Zx := Zx.out.c0
    have c1Zx := Zx.out.c1
    go_upto_region 14 with (first | (go_at_call 27; refine (cSetR Zx.out.hC Zx.out.hl Hq.out).mono ?_; rintro e W22 ⟨Aq, kq, rfl, hC, hb⟩; have HCq := Aside0.mk hC; clear hC; replace S0 := Aside0.mk (S0.out.mono49 hb); replace Zx := Aside0.mk (Zx.out.mono71 hb); replace Zp := Aside0.mk (Zp.out.mono49 hb); replace HB := Aside0.mk (HB.out.trans (hb.mono HB.out.size)); clear hb; clear c0Zx c1Zx) | ((with_reducible refine gate_dst (N := 24) rfl ?_); refine box_event ?hg (N := 24) ?hd (cs := #[.slice none 0 0, .int .i64 0]) (t := 29) ?hr ?_; (case hd => rfl); (case hg => rfl); (case hr => first | (go_simp; done) | (go_simp; rfl)); intro gq hg W23 hbox hb; have s0 := (blk_cell hbox 0).trans rfl; have s1 := (blk_cell hbox 1).trans rfl; have f0 := blk_frozen hbox 0; have f1 := blk_frozen hbox 1; have HX := Aside0.mk hbox; have HG := Aside0.mk hg; have HBX := Aside0.mk hb; clear hbox hg hb))
    have hq := Bx.put (last := q2) HG.out HX.out HBX.out HCq.out.1 HCq.out.2 (fun W' hb => Kd.C_below HCq.out.2 hb)
    clear s0 s1 f0 f1 HX HG HBX HCq
    generalize ((W23.setCell ⟨gq, 0, none⟩ (.slice Aq q1.length kq)).setCell ⟨gq, 1, none⟩ (.int .i64 q2)) = W24 at hq ⊢
    obtain ⟨hbx, hb⟩ := hq
    have Zq := Aside0.mk hbx; clear hbx; replace S0 := Aside0.mk (S0.out.mono49 hb); replace Zx := Aside0.mk (Zx.out.mono71 hb); replace Zp := Aside0.mk (Zp.out.mono49 hb); replace HB := Aside0.mk (HB.out.trans (hb.mono HB.out.size)); clear hb
    have c0S0 := S0.out.c0
    have c1S0 := S0.out.c1
    go_upto_region 15 with (first | (go_at_call 22; refine (cKill S0.out.hC S0.out.hl Hu.out).mono ?_; rintro e W25 ⟨Au, ku, rfl, hC, hb⟩; have HCu := Aside0.mk hC; clear hC; replace S0 := Aside0.mk (S0.out.mono49 hb); replace Zx := Aside0.mk (Zx.out.mono71 hb); replace Zp := Aside0.mk (Zp.out.mono49 hb); replace Zq := Aside0.mk (Zq.out.mono71 hb); replace HB := Aside0.mk (HB.out.trans (hb.mono HB.out.size)); clear hb; clear c0S0 c1S0) | ((with_reducible refine gate_dst (N := 26) rfl ?_); refine box_event ?hg (N := 26) ?hd (cs := #[.slice none 0 0, .int .i64 0]) (t := 24) ?hr ?_; (case hd => rfl); (case hg => rfl); (case hr => first | (go_simp; done) | (go_simp; rfl)); intro gu hg W26 hbox hb; have s0 := (blk_cell hbox 0).trans rfl; have s1 := (blk_cell hbox 1).trans rfl; have f0 := blk_frozen hbox 0; have f1 := blk_frozen hbox 1; have HX := Aside0.mk hbox; have HG := Aside0.mk hg; have HBX := Aside0.mk hb; clear hbox hg hb))
    have hq := Bx.put (last := u2) HG.out HX.out HBX.out HCu.out.1 HCu.out.2 (fun W' hb => Kd.C_below HCu.out.2 hb)
    clear s0 s1 f0 f1 HX HG HBX HCu
    generalize ((W26.setCell ⟨gu, 0, none⟩ (.slice Au u1.length ku)).setCell ⟨gu, 1, none⟩ (.int .i64 u2)) = W27 at hq ⊢
    obtain ⟨hbx, hb⟩ := hq
    have Zu := Aside0.mk hbx; clear hbx; replace S0 := Aside0.mk (S0.out.mono49 hb); replace Zx := Aside0.mk (Zx.out.mono71 hb); replace Zp := Aside0.mk (Zp.out.mono49 hb); replace Zq := Aside0.mk (Zq.out.mono71 hb); replace HB := Aside0.mk (HB.out.trans (hb.mono HB.out.size)); clear hb
    have c0Zx := Zx.out.c0
    have c1Zx := Zx.out.c1
    go_upto_region 16 with (first | (go_at_call 28; refine (cKillR Zx.out.hC Zx.out.hl Hy.out).mono ?_; rintro e W28 ⟨Ay, ky, rfl, hC, hb⟩; have HCy := Aside0.mk hC; clear hC; replace S0 := Aside0.mk (S0.out.mono49 hb); replace Zx := Aside0.mk (Zx.out.mono71 hb); replace Zp := Aside0.mk (Zp.out.mono49 hb); replace Zq := Aside0.mk (Zq.out.mono71 hb); replace Zu := Aside0.mk (Zu.out.mono49 hb); replace HB := Aside0.mk (HB.out.trans (hb.mono HB.out.size)); clear hb; clear c0Zx c1Zx) | ((with_reducible refine gate_dst (N := 28) rfl ?_); refine box_event ?hg (N := 28) ?hd (cs := #[.slice none 0 0, .int .i64 0]) (t := 29) ?hr ?_; (case hd => rfl); (case hg => rfl); (case hr => first | (go_simp; done) | (go_simp; rfl)); intro gy hg W29 hbox hb; have s0 := (blk_cell hbox 0).trans rfl; have s1 := (blk_cell hbox 1).trans rfl; have f0 := blk_frozen hbox 0; have f1 := blk_frozen hbox 1; have HX := Aside0.mk hbox; have HG := Aside0.mk hg; have HBX := Aside0.mk hb; clear hbox hg hb))
    have hq := Bx.put (last := y2) HG.out HX.out HBX.out HCy.out.1 HCy.out.2 (fun W' hb => Kd.C_below HCy.out.2 hb)
    clear s0 s1 f0 f1 HX HG HBX HCy
    generalize ((W29.setCell ⟨gy, 0, none⟩ (.slice Ay y1.length ky)).setCell ⟨gy, 1, none⟩ (.int .i64 y2)) = W30 at hq ⊢
    obtain ⟨hbx, hb⟩ := hq
    have Zy := Aside0.mk hbx; clear hbx; replace S0 := Aside0.mk (S0.out.mono49 hb); replace Zx := Aside0.mk (Zx.out.mono71 hb); replace Zp := Aside0.mk (Zp.out.mono49 hb); replace Zq := Aside0.mk (Zq.out.mono71 hb); replace Zu := Aside0.mk (Zu.out.mono49 hb); replace HB := Aside0.mk (HB.out.trans (hb.mono HB.out.size)); clear hb
    have c0S0 := S0.out.c0
    have c1S0 := S0.out.c1
    go_upto_region 17 with (first | (go_at_call 17; refine (cGive S0.out.hC S0.out.hl Hg.out).mono ?_; rintro e W31 ⟨Ag, kg, rfl, hC, hb⟩; have HCg := Aside0.mk hC; clear hC; replace S0 := Aside0.mk (S0.out.mono49 hb); replace Zx := Aside0.mk (Zx.out.mono71 hb); replace Zp := Aside0.mk (Zp.out.mono49 hb); replace Zq := Aside0.mk (Zq.out.mono71 hb); replace Zu := Aside0.mk (Zu.out.mono49 hb); replace Zy := Aside0.mk (Zy.out.mono71 hb); replace HB := Aside0.mk (HB.out.trans (hb.mono HB.out.size)); clear hb; clear c0S0 c1S0) | ((with_reducible refine gate_dst (N := 30) rfl ?_); refine box_event ?hg (N := 30) ?hd (cs := #[.slice none 0 0, .int .i64 0]) (t := 24) ?hr ?_; (case hd => rfl); (case hg => rfl); (case hr => first | (go_simp; done) | (go_simp; rfl)); intro gg hg W32 hbox hb; have s0 := (blk_cell hbox 0).trans rfl; have s1 := (blk_cell hbox 1).trans rfl; have f0 := blk_frozen hbox 0; have f1 := blk_frozen hbox 1; have HX := Aside0.mk hbox; have HG := Aside0.mk hg; have HBX := Aside0.mk hb; clear hbox hg hb))
    have hq := Bx.put (last := g2) HG.out HX.out HBX.out HCg.out.1 HCg.out.2 (fun W' hb => Kd.C_below HCg.out.2 hb)
    clear s0 s1 f0 f1 HX HG HBX HCg
    generalize ((W32.setCell ⟨gg, 0, none⟩ (.slice Ag g1.length kg)).setCell ⟨gg, 1, none⟩ (.int .i64 g2)) = W33 at hq ⊢
    obtain ⟨hbx, hb⟩ := hq
    have Zg := Aside0.mk hbx; clear hbx; replace S0 := Aside0.mk (S0.out.mono49 hb); replace Zx := Aside0.mk (Zx.out.mono71 hb); replace Zp := Aside0.mk (Zp.out.mono49 hb); replace Zq := Aside0.mk (Zq.out.mono71 hb); replace Zu := Aside0.mk (Zu.out.mono49 hb); replace Zy := Aside0.mk (Zy.out.mono71 hb); replace HB := Aside0.mk (HB.out.trans (hb.mono HB.out.size)); clear hb
    have c0Zx := Zx.out.c0
    have c1Zx := Zx.out.c1
    go_upto_region 18 with (first | (go_at_call 29; refine (cGiveR Zx.out.hC Zx.out.hl Hz.out).mono ?_; rintro e W34 ⟨Az, kz, rfl, hC, hb⟩; have HCz := Aside0.mk hC; clear hC; replace S0 := Aside0.mk (S0.out.mono49 hb); replace Zx := Aside0.mk (Zx.out.mono71 hb); replace Zp := Aside0.mk (Zp.out.mono49 hb); replace Zq := Aside0.mk (Zq.out.mono71 hb); replace Zu := Aside0.mk (Zu.out.mono49 hb); replace Zy := Aside0.mk (Zy.out.mono71 hb); replace Zg := Aside0.mk (Zg.out.mono49 hb); replace HB := Aside0.mk (HB.out.trans (hb.mono HB.out.size)); clear hb; clear c0Zx c1Zx) | ((with_reducible refine gate_dst (N := 32) rfl ?_); refine box_event ?hg (N := 32) ?hd (cs := #[.slice none 0 0, .int .i64 0]) (t := 29) ?hr ?_; (case hd => rfl); (case hg => rfl); (case hr => first | (go_simp; done) | (go_simp; rfl)); intro gz hg W35 hbox hb; have s0 := (blk_cell hbox 0).trans rfl; have s1 := (blk_cell hbox 1).trans rfl; have f0 := blk_frozen hbox 0; have f1 := blk_frozen hbox 1; have HX := Aside0.mk hbox; have HG := Aside0.mk hg; have HBX := Aside0.mk hb; clear hbox hg hb))
    have hq := Bx.put (last := z2) HG.out HX.out HBX.out HCz.out.1 HCz.out.2 (fun W' hb => Kd.C_below HCz.out.2 hb)
    clear s0 s1 f0 f1 HX HG HBX HCz
    generalize ((W35.setCell ⟨gz, 0, none⟩ (.slice Az z1.length kz)).setCell ⟨gz, 1, none⟩ (.int .i64 z2)) = W36 at hq ⊢
    obtain ⟨hbx, hb⟩ := hq
    have Zz := Aside0.mk hbx; clear hbx; replace S0 := Aside0.mk (S0.out.mono49 hb); replace Zx := Aside0.mk (Zx.out.mono71 hb); replace Zp := Aside0.mk (Zp.out.mono49 hb); replace Zq := Aside0.mk (Zq.out.mono71 hb); replace Zu := Aside0.mk (Zu.out.mono49 hb); replace Zy := Aside0.mk (Zy.out.mono71 hb); replace Zg := Aside0.mk (Zg.out.mono49 hb); replace HB := Aside0.mk (HB.out.trans (hb.mono HB.out.size)); clear hb
    have hb : Below W36.heap.size W36 W36.drew := below_drew1 (Below.refl _ _)
    replace S0 := Aside0.mk (S0.out.mono49 hb); replace Zx := Aside0.mk (Zx.out.mono71 hb); replace Zp := Aside0.mk (Zp.out.mono49 hb); replace Zq := Aside0.mk (Zq.out.mono71 hb); replace Zu := Aside0.mk (Zu.out.mono49 hb); replace Zy := Aside0.mk (Zy.out.mono71 hb); replace Zg := Aside0.mk (Zg.out.mono49 hb); replace Zz := Aside0.mk (Zz.out.mono71 hb); replace HB := Aside0.mk (HB.out.trans (hb.mono HB.out.size)); clear hb
    refine start_ (n := 39) (S := fun w' => w'.cell? ⟨gp, 0, none⟩ = some (.slice Ap p1.length kp) ∧ w'.cell? ⟨gp, 1, none⟩ = some (.int .i64 p2) ∧ w'.cell? ⟨gq, 0, none⟩ = some (.slice Aq q1.length kq) ∧ w'.cell? ⟨gq, 1, none⟩ = some (.int .i64 q2) ∧ w'.cell? ⟨gu, 0, none⟩ = some (.slice Au u1.length ku) ∧ w'.cell? ⟨gu, 1, none⟩ = some (.int .i64 u2) ∧ w'.cell? ⟨gy, 0, none⟩ = some (.slice Ay y1.length ky) ∧ w'.cell? ⟨gy, 1, none⟩ = some (.int .i64 y2) ∧ w'.cell? ⟨gg, 0, none⟩ = some (.slice Ag g1.length kg) ∧ w'.cell? ⟨gg, 1, none⟩ = some (.int .i64 g2) ∧ w'.cell? ⟨gz, 0, none⟩ = some (.slice Az z1.length kz) ∧ w'.cell? ⟨gz, 1, none⟩ = some (.int .i64 z2) ∧ w'.cell? ⟨w.heap.size, 0, none⟩ = some (.slice A l.length cc) ∧ w'.cell? ⟨w.heap.size, 1, none⟩ = some (.int .i64 s) ∧ w'.cell? ⟨gx, 0, none⟩ = some (.slice Ax x1.length kx) ∧ w'.cell? ⟨gx, 1, none⟩ = some (.int .i64 x2)) (ds := []) #[false, false, false, false, false, false, false, false, false, false, false, false, false, false, false, false, false, false, false, false, false, false, false, false, false, false, false, false, false, false, false, false, false, false, false, false, false, false, false] (by kernel_rfl) rfl rfl ⟨Zp.out.c0, Zp.out.c1, Zq.out.c0, Zq.out.c1, Zu.out.c0, Zu.out.c1, Zy.out.c0, Zy.out.c1, Zg.out.c0, Zg.out.c1, Zz.out.c0, Zz.out.c1, S0.out.c0, S0.out.c1, Zx.out.c0, Zx.out.c1⟩ (fun hHeld => ?_)
    refine with_tabW mortmainlaw03_SlabActs.tab18 mortmainlaw03_SlabActs.bits18 (fun HT_ HW_ => ?_)
    generalize W36.drew = W37 at S0 Zx Zp Zq Zu Zy Zg Zz HB hHeld ⊢
    refine take_ (i := 0) (N := some 155) (v := ?_) (a' := ?_) #[true, false, false, false, false, false, false, false, false, false, false, false, false, false, false, false, false, false, false, false, false, false, false, false, false, false, false, false, false, false, false, false, false, false, false, false, false, false, false] rfl rfl (take_ofW HT_.out HW_.out (by kernel_rfl)) (fun _ _ _ h => h) (Or.inl ⟨by rfl, ?_⟩) hHeld ?_ ?_
    rotate_left
    · rintro w' ⟨s0, s1, s2, s3, s4, s5, s6, s7, s8, s9, s10, s11, s12, s13, s14, s15⟩; go_simp; with_reducible rfl
    rotate_left
    · simp only [Act.put, List.setIfInBounds_toArray, List.set_cons_zero, List.set_cons_succ, i64_w, i32_w]
      rfl
    refine take_ (i := 2) (N := some 157) (v := ?_) (a' := ?_) #[true, false, true, false, false, false, false, false, false, false, false, false, false, false, false, false, false, false, false, false, false, false, false, false, false, false, false, false, false, false, false, false, false, false, false, false, false, false, false] rfl rfl (take_ofW HT_.out HW_.out (by kernel_rfl)) (fun _ _ _ h => h) (Or.inl ⟨by rfl, ?_⟩) hHeld ?_ ?_
    rotate_left
    · rintro w' ⟨s0, s1, s2, s3, s4, s5, s6, s7, s8, s9, s10, s11, s12, s13, s14, s15⟩; go_simp; with_reducible rfl
    rotate_left
    · simp only [Act.put, List.setIfInBounds_toArray, List.set_cons_zero, List.set_cons_succ, i64_w, i32_w]
      rfl
    refine one_ (i := 1) (N := some 156) #[true, true, true, false, false, false, false, false, false, false, false, false, false, false, false, false, false, false, false, false, false, false, false, false, false, false, false, false, false, false, false, false, false, false, false, false, false, false, false] rfl rfl (one_of HT_.out (by kernel_rfl)) (by decide) (fun K hK => ?_)
    refine goes_ Try.func13 (by kernel_rfl) rfl #[.agg #[.slice Ap p1.length kp, .int .i64 p2]] (by rfl) rfl rfl (by (try simp only [List.map_toArray, List.map_cons, List.map_nil]); first | done | rfl) ?_
    with_reducible refine (cIts Zp.out.hC Zp.out.hl Hip.out).mono ?_
    rintro e W38 ⟨Aip, kip, rfl, hC, hb⟩
    refine ⟨_, rfl, ?_⟩
    have HCip := Aside0.mk hC
    clear hC
    replace S0 := Aside0.mk (S0.out.mono49 hb); replace Zx := Aside0.mk (Zx.out.mono71 hb); replace Zp := Aside0.mk (Zp.out.mono49 hb); replace Zq := Aside0.mk (Zq.out.mono71 hb); replace Zu := Aside0.mk (Zu.out.mono49 hb); replace Zy := Aside0.mk (Zy.out.mono71 hb); replace Zg := Aside0.mk (Zg.out.mono49 hb); replace Zz := Aside0.mk (Zz.out.mono71 hb); replace HB := Aside0.mk (HB.out.trans (hb.mono HB.out.size)); clear hb
    refine hK.out _ _ ⟨Zp.out.c0, Zp.out.c1, Zq.out.c0, Zq.out.c1, Zu.out.c0, Zu.out.c1, Zy.out.c0, Zy.out.c1, Zg.out.c0, Zg.out.c1, Zz.out.c0, Zz.out.c1, S0.out.c0, S0.out.c1, Zx.out.c0, Zx.out.c1⟩ (fun hHeld => ?_)
    clear hK K
    refine norm_ (a' := ?_) ?_ ?_
    rotate_left
    · show Act.put _ (some 156) _ = _
      simp only [Act.put, List.setIfInBounds_toArray, List.set_cons_zero, List.set_cons_succ, i64_w, i32_w]
      rfl
    refine one_ (i := 3) (N := some 158) #[true, true, true, true, false, false, false, false, false, false, false, false, false, false, false, false, false, false, false, false, false, false, false, false, false, false, false, false, false, false, false, false, false, false, false, false, false, false, false] rfl rfl (one_of HT_.out (by kernel_rfl)) (by decide) (fun K hK => ?_)
    refine goes_ Try.func12 (by kernel_rfl) rfl #[.agg #[.slice Aip ip1.length kip, .int .i64 ip2], .agg #[.slice Aq q1.length kq, .int .i64 q2]] (by rfl) rfl rfl (by (try simp only [List.map_toArray, List.map_cons, List.map_nil]); first | done | rfl) ?_
    with_reducible refine (mortmainref03_Same.calls 1000 _ _ ip1 ip2 _ _ q1 q2 true _ HCip.out.2 HCip.out.1 Zq.out.hC Zq.out.hl Hsp.out).mono ?_
    rintro e W39 ⟨rfl, hb⟩
    refine ⟨_, rfl, ?_⟩
    replace S0 := Aside0.mk (S0.out.mono49 hb); replace Zx := Aside0.mk (Zx.out.mono71 hb); replace Zp := Aside0.mk (Zp.out.mono49 hb); replace Zq := Aside0.mk (Zq.out.mono71 hb); replace Zu := Aside0.mk (Zu.out.mono49 hb); replace Zy := Aside0.mk (Zy.out.mono71 hb); replace Zg := Aside0.mk (Zg.out.mono49 hb); replace Zz := Aside0.mk (Zz.out.mono71 hb); replace HB := Aside0.mk (HB.out.trans (hb.mono HB.out.size)); clear hb
    refine hK.out _ _ ⟨Zp.out.c0, Zp.out.c1, Zq.out.c0, Zq.out.c1, Zu.out.c0, Zu.out.c1, Zy.out.c0, Zy.out.c1, Zg.out.c0, Zg.out.c1, Zz.out.c0, Zz.out.c1, S0.out.c0, S0.out.c1, Zx.out.c0, Zx.out.c1⟩ (fun hHeld => ?_)
    clear hK K
    refine norm_ (a' := ?_) ?_ ?_
    rotate_left
    · show Act.put _ (some 158) _ = _
      simp only [Act.put, List.setIfInBounds_toArray, List.set_cons_zero, List.set_cons_succ, i64_w, i32_w]
      rfl
    refine pure_ (i := 4) (N := some 159) (v := ?_) (a' := ?_) #[true, true, true, true, true, false, false, false, false, false, false, false, false, false, false, false, false, false, false, false, false, false, false, false, false, false, false, false, false, false, false, false, false, false, false, false, false, false, false] rfl rfl (any_of HT_.out (by kernel_rfl)) (fun _ _ _ h => h) (Or.inl ⟨by rfl, ?_⟩) ?_ ?_
    rotate_left
    · intro w'; go_simp; with_reducible rfl
    rotate_left
    · simp only [Act.put, List.setIfInBounds_toArray, List.set_cons_zero, List.set_cons_succ, i64_w, i32_w]
      rfl
    refine pure_ (i := 5) (N := some 160) (v := ?_) (a' := ?_) #[true, true, true, true, true, true, false, false, false, false, false, false, false, false, false, false, false, false, false, false, false, false, false, false, false, false, false, false, false, false, false, false, false, false, false, false, false, false, false] rfl rfl (any_of HT_.out (by kernel_rfl)) (fun _ _ _ h => h) (Or.inl ⟨by rfl, ?_⟩) ?_ ?_
    rotate_left
    · intro w'; go_simp; with_reducible rfl
    rotate_left
    · simp only [Act.put, List.setIfInBounds_toArray, List.set_cons_zero, List.set_cons_succ, i64_w, i32_w]
      rfl
    refine pure_ (i := 6) (N := some 161) (v := ?_) (a' := ?_) #[true, true, true, true, true, true, true, false, false, false, false, false, false, false, false, false, false, false, false, false, false, false, false, false, false, false, false, false, false, false, false, false, false, false, false, false, false, false, false] rfl rfl (any_of HT_.out (by kernel_rfl)) (fun _ _ _ h => h) (Or.inl ⟨by rfl, ?_⟩) ?_ ?_
    rotate_left
    · intro w'; go_simp; with_reducible rfl
    rotate_left
    · simp only [Act.put, List.setIfInBounds_toArray, List.set_cons_zero, List.set_cons_succ, i64_w, i32_w]
      rfl
    refine pure_ (i := 7) (N := some 162) (v := ?_) (a' := ?_) #[true, true, true, true, true, true, true, true, false, false, false, false, false, false, false, false, false, false, false, false, false, false, false, false, false, false, false, false, false, false, false, false, false, false, false, false, false, false, false] rfl rfl (any_of HT_.out (by kernel_rfl)) (fun _ _ _ h => h) (Or.inl ⟨by rfl, ?_⟩) ?_ ?_
    rotate_left
    · intro w'; go_simp; with_reducible rfl
    rotate_left
    · simp only [Act.put, List.setIfInBounds_toArray, List.set_cons_zero, List.set_cons_succ, i64_w, i32_w]
      rfl
    refine pure_ (i := 8) (N := some 163) (v := ?_) (a' := ?_) #[true, true, true, true, true, true, true, true, true, false, false, false, false, false, false, false, false, false, false, false, false, false, false, false, false, false, false, false, false, false, false, false, false, false, false, false, false, false, false] rfl rfl (any_of HT_.out (by kernel_rfl)) (fun _ _ _ h => h) (Or.inl ⟨by rfl, ?_⟩) ?_ ?_
    rotate_left
    · intro w'; go_simp; with_reducible rfl
    rotate_left
    · simp only [Act.put, List.setIfInBounds_toArray, List.set_cons_zero, List.set_cons_succ, i64_w, i32_w]
      rfl
    refine pure_ (i := 9) (N := some 164) (v := ?_) (a' := ?_) #[true, true, true, true, true, true, true, true, true, true, false, false, false, false, false, false, false, false, false, false, false, false, false, false, false, false, false, false, false, false, false, false, false, false, false, false, false, false, false] rfl rfl (any_of HT_.out (by kernel_rfl)) (fun _ _ _ h => h) (Or.inl ⟨by rfl, ?_⟩) ?_ ?_
    rotate_left
    · intro w'; go_simp; with_reducible rfl
    rotate_left
    · simp only [Act.put, List.setIfInBounds_toArray, List.set_cons_zero, List.set_cons_succ, i64_w, i32_w]
      rfl
    refine take_ (i := 10) (N := some 165) (v := ?_) (a' := ?_) #[true, true, true, true, true, true, true, true, true, true, true, false, false, false, false, false, false, false, false, false, false, false, false, false, false, false, false, false, false, false, false, false, false, false, false, false, false, false, false] rfl rfl (take_ofW HT_.out HW_.out (by kernel_rfl)) (fun _ _ _ h => h) (Or.inl ⟨by rfl, ?_⟩) hHeld ?_ ?_
    rotate_left
    · rintro w' ⟨s0, s1, s2, s3, s4, s5, s6, s7, s8, s9, s10, s11, s12, s13, s14, s15⟩; go_simp; with_reducible rfl
    rotate_left
    · simp only [Act.put, List.setIfInBounds_toArray, List.set_cons_zero, List.set_cons_succ, i64_w, i32_w]
      rfl
    refine take_ (i := 12) (N := some 167) (v := ?_) (a' := ?_) #[true, true, true, true, true, true, true, true, true, true, true, false, true, false, false, false, false, false, false, false, false, false, false, false, false, false, false, false, false, false, false, false, false, false, false, false, false, false, false] rfl rfl (take_ofW HT_.out HW_.out (by kernel_rfl)) (fun _ _ _ h => h) (Or.inl ⟨by rfl, ?_⟩) hHeld ?_ ?_
    rotate_left
    · rintro w' ⟨s0, s1, s2, s3, s4, s5, s6, s7, s8, s9, s10, s11, s12, s13, s14, s15⟩; go_simp; with_reducible rfl
    rotate_left
    · simp only [Act.put, List.setIfInBounds_toArray, List.set_cons_zero, List.set_cons_succ, i64_w, i32_w]
      rfl
    refine one_ (i := 11) (N := some 166) #[true, true, true, true, true, true, true, true, true, true, true, true, true, false, false, false, false, false, false, false, false, false, false, false, false, false, false, false, false, false, false, false, false, false, false, false, false, false, false] rfl rfl (one_of HT_.out (by kernel_rfl)) (by decide) (fun K hK => ?_)
    refine goes_ Try.func13 (by kernel_rfl) rfl #[.agg #[.slice Au u1.length ku, .int .i64 u2]] (by rfl) rfl rfl (by (try simp only [List.map_toArray, List.map_cons, List.map_nil]); first | done | rfl) ?_
    with_reducible refine (cIts Zu.out.hC Zu.out.hl Hiu.out).mono ?_
    rintro e W40 ⟨Aiu, kiu, rfl, hC, hb⟩
    refine ⟨_, rfl, ?_⟩
    have HCiu := Aside0.mk hC
    clear hC
    replace S0 := Aside0.mk (S0.out.mono49 hb); replace Zx := Aside0.mk (Zx.out.mono71 hb); replace Zp := Aside0.mk (Zp.out.mono49 hb); replace Zq := Aside0.mk (Zq.out.mono71 hb); replace Zu := Aside0.mk (Zu.out.mono49 hb); replace Zy := Aside0.mk (Zy.out.mono71 hb); replace Zg := Aside0.mk (Zg.out.mono49 hb); replace Zz := Aside0.mk (Zz.out.mono71 hb); replace HB := Aside0.mk (HB.out.trans (hb.mono HB.out.size)); clear hb
    refine hK.out _ _ ⟨Zp.out.c0, Zp.out.c1, Zq.out.c0, Zq.out.c1, Zu.out.c0, Zu.out.c1, Zy.out.c0, Zy.out.c1, Zg.out.c0, Zg.out.c1, Zz.out.c0, Zz.out.c1, S0.out.c0, S0.out.c1, Zx.out.c0, Zx.out.c1⟩ (fun hHeld => ?_)
    clear hK K
    refine norm_ (a' := ?_) ?_ ?_
    rotate_left
    · show Act.put _ (some 166) _ = _
      simp only [Act.put, List.setIfInBounds_toArray, List.set_cons_zero, List.set_cons_succ, i64_w, i32_w]
      rfl
    refine one_ (i := 13) (N := some 168) #[true, true, true, true, true, true, true, true, true, true, true, true, true, true, false, false, false, false, false, false, false, false, false, false, false, false, false, false, false, false, false, false, false, false, false, false, false, false, false] rfl rfl (one_of HT_.out (by kernel_rfl)) (by decide) (fun K hK => ?_)
    refine goes_ Try.func12 (by kernel_rfl) rfl #[.agg #[.slice Aiu iu1.length kiu, .int .i64 iu2], .agg #[.slice Ay y1.length ky, .int .i64 y2]] (by rfl) rfl rfl (by (try simp only [List.map_toArray, List.map_cons, List.map_nil]); first | done | rfl) ?_
    with_reducible refine (mortmainref03_Same.calls 1000 _ _ iu1 iu2 _ _ y1 y2 true _ HCiu.out.2 HCiu.out.1 Zy.out.hC Zy.out.hl Hsu.out).mono ?_
    rintro e W41 ⟨rfl, hb⟩
    refine ⟨_, rfl, ?_⟩
    replace S0 := Aside0.mk (S0.out.mono49 hb); replace Zx := Aside0.mk (Zx.out.mono71 hb); replace Zp := Aside0.mk (Zp.out.mono49 hb); replace Zq := Aside0.mk (Zq.out.mono71 hb); replace Zu := Aside0.mk (Zu.out.mono49 hb); replace Zy := Aside0.mk (Zy.out.mono71 hb); replace Zg := Aside0.mk (Zg.out.mono49 hb); replace Zz := Aside0.mk (Zz.out.mono71 hb); replace HB := Aside0.mk (HB.out.trans (hb.mono HB.out.size)); clear hb
    refine hK.out _ _ ⟨Zp.out.c0, Zp.out.c1, Zq.out.c0, Zq.out.c1, Zu.out.c0, Zu.out.c1, Zy.out.c0, Zy.out.c1, Zg.out.c0, Zg.out.c1, Zz.out.c0, Zz.out.c1, S0.out.c0, S0.out.c1, Zx.out.c0, Zx.out.c1⟩ (fun hHeld => ?_)
    clear hK K
    refine norm_ (a' := ?_) ?_ ?_
    rotate_left
    · show Act.put _ (some 168) _ = _
      simp only [Act.put, List.setIfInBounds_toArray, List.set_cons_zero, List.set_cons_succ, i64_w, i32_w]
      rfl
    refine pure_ (i := 14) (N := some 169) (v := ?_) (a' := ?_) #[true, true, true, true, true, true, true, true, true, true, true, true, true, true, true, false, false, false, false, false, false, false, false, false, false, false, false, false, false, false, false, false, false, false, false, false, false, false, false] rfl rfl (any_of HT_.out (by kernel_rfl)) (fun _ _ _ h => h) (Or.inl ⟨by rfl, ?_⟩) ?_ ?_
    rotate_left
    · intro w'; go_simp; with_reducible rfl
    rotate_left
    · simp only [Act.put, List.setIfInBounds_toArray, List.set_cons_zero, List.set_cons_succ, i64_w, i32_w]
      rfl
    refine pure_ (i := 15) (N := some 170) (v := ?_) (a' := ?_) #[true, true, true, true, true, true, true, true, true, true, true, true, true, true, true, true, false, false, false, false, false, false, false, false, false, false, false, false, false, false, false, false, false, false, false, false, false, false, false] rfl rfl (any_of HT_.out (by kernel_rfl)) (fun _ _ _ h => h) (Or.inl ⟨by rfl, ?_⟩) ?_ ?_
    rotate_left
    · intro w'; go_simp; with_reducible rfl
    rotate_left
    · simp only [Act.put, List.setIfInBounds_toArray, List.set_cons_zero, List.set_cons_succ, i64_w, i32_w]
      rfl
    refine pure_ (i := 16) (N := some 171) (v := ?_) (a' := ?_) #[true, true, true, true, true, true, true, true, true, true, true, true, true, true, true, true, true, false, false, false, false, false, false, false, false, false, false, false, false, false, false, false, false, false, false, false, false, false, false] rfl rfl (any_of HT_.out (by kernel_rfl)) (fun _ _ _ h => h) (Or.inl ⟨by rfl, ?_⟩) ?_ ?_
    rotate_left
    · intro w'; go_simp; with_reducible rfl
    rotate_left
    · simp only [Act.put, List.setIfInBounds_toArray, List.set_cons_zero, List.set_cons_succ, i64_w, i32_w]
      rfl
    refine pure_ (i := 17) (N := some 172) (v := ?_) (a' := ?_) #[true, true, true, true, true, true, true, true, true, true, true, true, true, true, true, true, true, true, false, false, false, false, false, false, false, false, false, false, false, false, false, false, false, false, false, false, false, false, false] rfl rfl (any_of HT_.out (by kernel_rfl)) (fun _ _ _ h => h) (Or.inl ⟨by rfl, ?_⟩) ?_ ?_
    rotate_left
    · intro w'; go_simp; with_reducible rfl
    rotate_left
    · simp only [Act.put, List.setIfInBounds_toArray, List.set_cons_zero, List.set_cons_succ, i64_w, i32_w]
      rfl
    refine pure_ (i := 18) (N := some 173) (v := ?_) (a' := ?_) #[true, true, true, true, true, true, true, true, true, true, true, true, true, true, true, true, true, true, true, false, false, false, false, false, false, false, false, false, false, false, false, false, false, false, false, false, false, false, false] rfl rfl (any_of HT_.out (by kernel_rfl)) (fun _ _ _ h => h) (Or.inl ⟨by rfl, ?_⟩) ?_ ?_
    rotate_left
    · intro w'; go_simp; with_reducible rfl
    rotate_left
    · simp only [Act.put, List.setIfInBounds_toArray, List.set_cons_zero, List.set_cons_succ, i64_w, i32_w]
      rfl
    refine pure_ (i := 19) (N := some 174) (v := ?_) (a' := ?_) #[true, true, true, true, true, true, true, true, true, true, true, true, true, true, true, true, true, true, true, true, false, false, false, false, false, false, false, false, false, false, false, false, false, false, false, false, false, false, false] rfl rfl (any_of HT_.out (by kernel_rfl)) (fun _ _ _ h => h) (Or.inl ⟨by rfl, ?_⟩) ?_ ?_
    rotate_left
    · intro w'; go_simp; with_reducible rfl
    rotate_left
    · simp only [Act.put, List.setIfInBounds_toArray, List.set_cons_zero, List.set_cons_succ, i64_w, i32_w]
      rfl
    refine pure_ (i := 20) (N := some 175) (v := ?_) (a' := ?_) #[true, true, true, true, true, true, true, true, true, true, true, true, true, true, true, true, true, true, true, true, true, false, false, false, false, false, false, false, false, false, false, false, false, false, false, false, false, false, false] rfl rfl (any_of HT_.out (by kernel_rfl)) (fun _ _ _ h => h) (Or.inl ⟨by rfl, ?_⟩) ?_ ?_
    rotate_left
    · intro w'; go_simp; with_reducible rfl
    rotate_left
    · simp only [Act.put, List.setIfInBounds_toArray, List.set_cons_zero, List.set_cons_succ, i64_w, i32_w]
      rfl
    refine take_ (i := 21) (N := some 176) (v := ?_) (a' := ?_) #[true, true, true, true, true, true, true, true, true, true, true, true, true, true, true, true, true, true, true, true, true, true, false, false, false, false, false, false, false, false, false, false, false, false, false, false, false, false, false] rfl rfl (take_ofW HT_.out HW_.out (by kernel_rfl)) (fun _ _ _ h => h) (Or.inl ⟨by rfl, ?_⟩) hHeld ?_ ?_
    rotate_left
    · rintro w' ⟨s0, s1, s2, s3, s4, s5, s6, s7, s8, s9, s10, s11, s12, s13, s14, s15⟩; go_simp; with_reducible rfl
    rotate_left
    · simp only [Act.put, List.setIfInBounds_toArray, List.set_cons_zero, List.set_cons_succ, i64_w, i32_w]
      rfl
    refine take_ (i := 23) (N := some 178) (v := ?_) (a' := ?_) #[true, true, true, true, true, true, true, true, true, true, true, true, true, true, true, true, true, true, true, true, true, true, false, true, false, false, false, false, false, false, false, false, false, false, false, false, false, false, false] rfl rfl (take_ofW HT_.out HW_.out (by kernel_rfl)) (fun _ _ _ h => h) (Or.inl ⟨by rfl, ?_⟩) hHeld ?_ ?_
    rotate_left
    · rintro w' ⟨s0, s1, s2, s3, s4, s5, s6, s7, s8, s9, s10, s11, s12, s13, s14, s15⟩; go_simp; with_reducible rfl
    rotate_left
    · simp only [Act.put, List.setIfInBounds_toArray, List.set_cons_zero, List.set_cons_succ, i64_w, i32_w]
      rfl
    refine one_ (i := 22) (N := some 177) #[true, true, true, true, true, true, true, true, true, true, true, true, true, true, true, true, true, true, true, true, true, true, true, true, false, false, false, false, false, false, false, false, false, false, false, false, false, false, false] rfl rfl (one_of HT_.out (by kernel_rfl)) (by decide) (fun K hK => ?_)
    refine goes_ Try.func13 (by kernel_rfl) rfl #[.agg #[.slice Ag g1.length kg, .int .i64 g2]] (by rfl) rfl rfl (by (try simp only [List.map_toArray, List.map_cons, List.map_nil]); first | done | rfl) ?_
    with_reducible refine (cIts Zg.out.hC Zg.out.hl Hig.out).mono ?_
    rintro e W42 ⟨Aig, kig, rfl, hC, hb⟩
    refine ⟨_, rfl, ?_⟩
    have HCig := Aside0.mk hC
    clear hC
    replace S0 := Aside0.mk (S0.out.mono49 hb); replace Zx := Aside0.mk (Zx.out.mono71 hb); replace Zp := Aside0.mk (Zp.out.mono49 hb); replace Zq := Aside0.mk (Zq.out.mono71 hb); replace Zu := Aside0.mk (Zu.out.mono49 hb); replace Zy := Aside0.mk (Zy.out.mono71 hb); replace Zg := Aside0.mk (Zg.out.mono49 hb); replace Zz := Aside0.mk (Zz.out.mono71 hb); replace HB := Aside0.mk (HB.out.trans (hb.mono HB.out.size)); clear hb
    refine hK.out _ _ ⟨Zp.out.c0, Zp.out.c1, Zq.out.c0, Zq.out.c1, Zu.out.c0, Zu.out.c1, Zy.out.c0, Zy.out.c1, Zg.out.c0, Zg.out.c1, Zz.out.c0, Zz.out.c1, S0.out.c0, S0.out.c1, Zx.out.c0, Zx.out.c1⟩ (fun hHeld => ?_)
    clear hK K
    refine norm_ (a' := ?_) ?_ ?_
    rotate_left
    · show Act.put _ (some 177) _ = _
      simp only [Act.put, List.setIfInBounds_toArray, List.set_cons_zero, List.set_cons_succ, i64_w, i32_w]
      rfl
    refine one_ (i := 24) (N := some 179) #[true, true, true, true, true, true, true, true, true, true, true, true, true, true, true, true, true, true, true, true, true, true, true, true, true, false, false, false, false, false, false, false, false, false, false, false, false, false, false] rfl rfl (one_of HT_.out (by kernel_rfl)) (by decide) (fun K hK => ?_)
    refine goes_ Try.func12 (by kernel_rfl) rfl #[.agg #[.slice Aig ig1.length kig, .int .i64 ig2], .agg #[.slice Az z1.length kz, .int .i64 z2]] (by rfl) rfl rfl (by (try simp only [List.map_toArray, List.map_cons, List.map_nil]); first | done | rfl) ?_
    with_reducible refine (mortmainref03_Same.calls 1000 _ _ ig1 ig2 _ _ z1 z2 true _ HCig.out.2 HCig.out.1 Zz.out.hC Zz.out.hl Hsg.out).mono ?_
    rintro e W43 ⟨rfl, hb⟩
    refine ⟨_, rfl, ?_⟩
    replace S0 := Aside0.mk (S0.out.mono49 hb); replace Zx := Aside0.mk (Zx.out.mono71 hb); replace Zp := Aside0.mk (Zp.out.mono49 hb); replace Zq := Aside0.mk (Zq.out.mono71 hb); replace Zu := Aside0.mk (Zu.out.mono49 hb); replace Zy := Aside0.mk (Zy.out.mono71 hb); replace Zg := Aside0.mk (Zg.out.mono49 hb); replace Zz := Aside0.mk (Zz.out.mono71 hb); replace HB := Aside0.mk (HB.out.trans (hb.mono HB.out.size)); clear hb
    refine hK.out _ _ ⟨Zp.out.c0, Zp.out.c1, Zq.out.c0, Zq.out.c1, Zu.out.c0, Zu.out.c1, Zy.out.c0, Zy.out.c1, Zg.out.c0, Zg.out.c1, Zz.out.c0, Zz.out.c1, S0.out.c0, S0.out.c1, Zx.out.c0, Zx.out.c1⟩ (fun hHeld => ?_)
    clear hK K
    refine norm_ (a' := ?_) ?_ ?_
    rotate_left
    · show Act.put _ (some 179) _ = _
      simp only [Act.put, List.setIfInBounds_toArray, List.set_cons_zero, List.set_cons_succ, i64_w, i32_w]
      rfl
    refine pure_ (i := 25) (N := some 180) (v := ?_) (a' := ?_) #[true, true, true, true, true, true, true, true, true, true, true, true, true, true, true, true, true, true, true, true, true, true, true, true, true, true, false, false, false, false, false, false, false, false, false, false, false, false, false] rfl rfl (any_of HT_.out (by kernel_rfl)) (fun _ _ _ h => h) (Or.inl ⟨by rfl, ?_⟩) ?_ ?_
    rotate_left
    · intro w'; go_simp; with_reducible rfl
    rotate_left
    · simp only [Act.put, List.setIfInBounds_toArray, List.set_cons_zero, List.set_cons_succ, i64_w, i32_w]
      rfl
    refine pure_ (i := 26) (N := some 181) (v := ?_) (a' := ?_) #[true, true, true, true, true, true, true, true, true, true, true, true, true, true, true, true, true, true, true, true, true, true, true, true, true, true, true, false, false, false, false, false, false, false, false, false, false, false, false] rfl rfl (any_of HT_.out (by kernel_rfl)) (fun _ _ _ h => h) (Or.inl ⟨by rfl, ?_⟩) ?_ ?_
    rotate_left
    · intro w'; go_simp; with_reducible rfl
    rotate_left
    · simp only [Act.put, List.setIfInBounds_toArray, List.set_cons_zero, List.set_cons_succ, i64_w, i32_w]
      rfl
    refine pure_ (i := 27) (N := some 182) (v := ?_) (a' := ?_) #[true, true, true, true, true, true, true, true, true, true, true, true, true, true, true, true, true, true, true, true, true, true, true, true, true, true, true, true, false, false, false, false, false, false, false, false, false, false, false] rfl rfl (any_of HT_.out (by kernel_rfl)) (fun _ _ _ h => h) (Or.inl ⟨by rfl, ?_⟩) ?_ ?_
    rotate_left
    · intro w'; go_simp; with_reducible rfl
    rotate_left
    · simp only [Act.put, List.setIfInBounds_toArray, List.set_cons_zero, List.set_cons_succ, i64_w, i32_w]
      rfl
    refine pure_ (i := 28) (N := some 183) (v := ?_) (a' := ?_) #[true, true, true, true, true, true, true, true, true, true, true, true, true, true, true, true, true, true, true, true, true, true, true, true, true, true, true, true, true, false, false, false, false, false, false, false, false, false, false] rfl rfl (any_of HT_.out (by kernel_rfl)) (fun _ _ _ h => h) (Or.inl ⟨by rfl, ?_⟩) ?_ ?_
    rotate_left
    · intro w'; go_simp; with_reducible rfl
    rotate_left
    · simp only [Act.put, List.setIfInBounds_toArray, List.set_cons_zero, List.set_cons_succ, i64_w, i32_w]
      rfl
    refine pure_ (i := 29) (N := some 184) (v := ?_) (a' := ?_) #[true, true, true, true, true, true, true, true, true, true, true, true, true, true, true, true, true, true, true, true, true, true, true, true, true, true, true, true, true, true, false, false, false, false, false, false, false, false, false] rfl rfl (any_of HT_.out (by kernel_rfl)) (fun _ _ _ h => h) (Or.inl ⟨by rfl, ?_⟩) ?_ ?_
    rotate_left
    · intro w'; go_simp; with_reducible rfl
    rotate_left
    · simp only [Act.put, List.setIfInBounds_toArray, List.set_cons_zero, List.set_cons_succ, i64_w, i32_w]
      rfl
    refine pure_ (i := 30) (N := some 185) (v := ?_) (a' := ?_) #[true, true, true, true, true, true, true, true, true, true, true, true, true, true, true, true, true, true, true, true, true, true, true, true, true, true, true, true, true, true, true, false, false, false, false, false, false, false, false] rfl rfl (any_of HT_.out (by kernel_rfl)) (fun _ _ _ h => h) (Or.inl ⟨by rfl, ?_⟩) ?_ ?_
    rotate_left
    · intro w'; go_simp; with_reducible rfl
    rotate_left
    · simp only [Act.put, List.setIfInBounds_toArray, List.set_cons_zero, List.set_cons_succ, i64_w, i32_w]
      rfl
    refine pure_ (i := 31) (N := some 186) (v := ?_) (a' := ?_) #[true, true, true, true, true, true, true, true, true, true, true, true, true, true, true, true, true, true, true, true, true, true, true, true, true, true, true, true, true, true, true, true, false, false, false, false, false, false, false] rfl rfl (any_of HT_.out (by kernel_rfl)) (fun _ _ _ h => h) (Or.inl ⟨by rfl, ?_⟩) ?_ ?_
    rotate_left
    · intro w'; go_simp; with_reducible rfl
    rotate_left
    · simp only [Act.put, List.setIfInBounds_toArray, List.set_cons_zero, List.set_cons_succ, i64_w, i32_w]
      rfl
    refine take_ (i := 32) (N := some 187) (v := ?_) (a' := ?_) #[true, true, true, true, true, true, true, true, true, true, true, true, true, true, true, true, true, true, true, true, true, true, true, true, true, true, true, true, true, true, true, true, true, false, false, false, false, false, false] rfl rfl (take_ofW HT_.out HW_.out (by kernel_rfl)) (fun _ _ _ h => h) (Or.inl ⟨by rfl, ?_⟩) hHeld ?_ ?_
    rotate_left
    · rintro w' ⟨s0, s1, s2, s3, s4, s5, s6, s7, s8, s9, s10, s11, s12, s13, s14, s15⟩; go_simp; with_reducible rfl
    rotate_left
    · simp only [Act.put, List.setIfInBounds_toArray, List.set_cons_zero, List.set_cons_succ, i64_w, i32_w]
      rfl
    refine take_ (i := 34) (N := some 189) (v := ?_) (a' := ?_) #[true, true, true, true, true, true, true, true, true, true, true, true, true, true, true, true, true, true, true, true, true, true, true, true, true, true, true, true, true, true, true, true, true, false, true, false, false, false, false] rfl rfl (take_ofW HT_.out HW_.out (by kernel_rfl)) (fun _ _ _ h => h) (Or.inl ⟨by rfl, ?_⟩) hHeld ?_ ?_
    rotate_left
    · rintro w' ⟨s0, s1, s2, s3, s4, s5, s6, s7, s8, s9, s10, s11, s12, s13, s14, s15⟩; go_simp; with_reducible rfl
    rotate_left
    · simp only [Act.put, List.setIfInBounds_toArray, List.set_cons_zero, List.set_cons_succ, i64_w, i32_w]
      rfl
    refine one_ (i := 33) (N := some 188) #[true, true, true, true, true, true, true, true, true, true, true, true, true, true, true, true, true, true, true, true, true, true, true, true, true, true, true, true, true, true, true, true, true, true, true, false, false, false, false] rfl rfl (one_of HT_.out (by kernel_rfl)) (by decide) (fun K hK => ?_)
    refine goes_ Try.func18 (by kernel_rfl) rfl #[.agg #[.slice A l.length cc, .int .i64 s]] (by rfl) rfl rfl (by (try simp only [List.map_toArray, List.map_cons, List.map_nil]); first | done | rfl) ?_
    with_reducible refine (slab_Tally_int.calls _ _ l s t1 t2 t3 t4 _ S0.out.hC S0.out.hl Ht.out).mono ?_
    rintro e W44 ⟨rfl, hb⟩
    refine ⟨_, rfl, ?_⟩
    replace S0 := Aside0.mk (S0.out.mono49 hb); replace Zx := Aside0.mk (Zx.out.mono71 hb); replace Zp := Aside0.mk (Zp.out.mono49 hb); replace Zq := Aside0.mk (Zq.out.mono71 hb); replace Zu := Aside0.mk (Zu.out.mono49 hb); replace Zy := Aside0.mk (Zy.out.mono71 hb); replace Zg := Aside0.mk (Zg.out.mono49 hb); replace Zz := Aside0.mk (Zz.out.mono71 hb); replace HB := Aside0.mk (HB.out.trans (hb.mono HB.out.size)); clear hb
    refine hK.out _ _ ⟨Zp.out.c0, Zp.out.c1, Zq.out.c0, Zq.out.c1, Zu.out.c0, Zu.out.c1, Zy.out.c0, Zy.out.c1, Zg.out.c0, Zg.out.c1, Zz.out.c0, Zz.out.c1, S0.out.c0, S0.out.c1, Zx.out.c0, Zx.out.c1⟩ (fun hHeld => ?_)
    clear hK K
    refine norm_ (a' := ?_) ?_ ?_
    rotate_left
    · show Act.put _ (some 188) _ = _
      simp only [Act.put, List.setIfInBounds_toArray, List.set_cons_zero, List.set_cons_succ, i64_w, i32_w]
      rfl
    refine one_ (i := 35) (N := some 190) #[true, true, true, true, true, true, true, true, true, true, true, true, true, true, true, true, true, true, true, true, true, true, true, true, true, true, true, true, true, true, true, true, true, true, true, true, false, false, false] rfl rfl (one_of HT_.out (by kernel_rfl)) (by decide) (fun K hK => ?_)
    refine goes_ Try.func30 (by kernel_rfl) rfl #[.agg #[.slice Ax x1.length kx, .int .i64 x2]] (by rfl) rfl rfl (by (try simp only [List.map_toArray, List.map_cons, List.map_nil]); first | done | rfl) ?_
    with_reducible refine (mortmainref03_Tally.calls _ _ x1 x2 t1 t2 t3 t4 _ Zx.out.hC Zx.out.hl Htr.out).mono ?_
    rintro e W45 ⟨rfl, hb⟩
    refine ⟨_, rfl, ?_⟩
    replace S0 := Aside0.mk (S0.out.mono49 hb); replace Zx := Aside0.mk (Zx.out.mono71 hb); replace Zp := Aside0.mk (Zp.out.mono49 hb); replace Zq := Aside0.mk (Zq.out.mono71 hb); replace Zu := Aside0.mk (Zu.out.mono49 hb); replace Zy := Aside0.mk (Zy.out.mono71 hb); replace Zg := Aside0.mk (Zg.out.mono49 hb); replace Zz := Aside0.mk (Zz.out.mono71 hb); replace HB := Aside0.mk (HB.out.trans (hb.mono HB.out.size)); clear hb
    refine hK.out _ _ ⟨Zp.out.c0, Zp.out.c1, Zq.out.c0, Zq.out.c1, Zu.out.c0, Zu.out.c1, Zy.out.c0, Zy.out.c1, Zg.out.c0, Zg.out.c1, Zz.out.c0, Zz.out.c1, S0.out.c0, S0.out.c1, Zx.out.c0, Zx.out.c1⟩ (fun hHeld => ?_)
    clear hK K
    refine norm_ (a' := ?_) ?_ ?_
    rotate_left
    · show Act.put _ (some 190) _ = _
      simp only [Act.put, List.setIfInBounds_toArray, List.set_cons_zero, List.set_cons_succ, i64_w, i32_w]
      rfl
    refine pure_ (i := 36) (N := some 191) (v := ?_) (a' := ?_) #[true, true, true, true, true, true, true, true, true, true, true, true, true, true, true, true, true, true, true, true, true, true, true, true, true, true, true, true, true, true, true, true, true, true, true, true, true, false, false] rfl rfl (any_of HT_.out (by kernel_rfl)) (fun _ _ _ h => h) (Or.inl ⟨by rfl, ?_⟩) ?_ ?_
    rotate_left
    · intro w'; go_simp; with_reducible rfl
    rotate_left
    · simp only [Act.put, List.setIfInBounds_toArray, List.set_cons_zero, List.set_cons_succ, i64_w, i32_w]
      rfl
    refine pure_ (i := 37) (N := some 192) (v := ?_) (a' := ?_) #[true, true, true, true, true, true, true, true, true, true, true, true, true, true, true, true, true, true, true, true, true, true, true, true, true, true, true, true, true, true, true, true, true, true, true, true, true, true, false] rfl rfl (any_of HT_.out (by kernel_rfl)) (fun _ _ _ h => h) (Or.inl ⟨by rfl, ?_⟩) ?_ ?_
    rotate_left
    · intro w'; go_simp; with_reducible rfl
    rotate_left
    · simp only [Act.put, List.setIfInBounds_toArray, List.set_cons_zero, List.set_cons_succ, i64_w, i32_w]
      rfl
    refine pure_ (i := 38) (N := some 6) (v := ?_) (a' := ?_) #[true, true, true, true, true, true, true, true, true, true, true, true, true, true, true, true, true, true, true, true, true, true, true, true, true, true, true, true, true, true, true, true, true, true, true, true, true, true, true] rfl rfl (any_of HT_.out (by kernel_rfl)) (fun _ _ _ h => h) (Or.inl ⟨by rfl, ?_⟩) ?_ ?_
    rotate_left
    · intro w'; go_simp; with_reducible rfl
    rotate_left
    · simp only [Act.put, List.setIfInBounds_toArray, List.set_cons_zero, List.set_cons_succ, i64_w, i32_w]
      rfl
    refine done_ (done_of HT_.out (by kernel_rfl)) ?_
    go_wp2
    go_ret
    exact ⟨rfl, HB.out⟩
end Go.Proofs.Ytacgijcdcodfkaa.MAll
