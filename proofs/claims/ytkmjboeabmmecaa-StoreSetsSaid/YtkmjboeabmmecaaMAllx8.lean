/- The functions that the law reaches in plain Lean, and that the calls come to what these say. No condition. (By wip/myprint.py, this session's program over the kit's print.) -/
import Derived.Test.YtkmjboeabmmecaaMAllx7
namespace Go.Proofs.Ytkmjboeabmmecaa.MAll
open Go.RowKit Go.Proofs.YtkmjboeabmmecaaW.PrintWords Go.Proofs.YtkmjboeabmmecaaW.PrintLast Go.Proofs.YtkmjboeabmmecaaW.PrintMore
attribute [local go_sem] max2_int min2_int max_two min_two max_three min_three max_four min_four
set_option linter.unusedVariables false
set_option linter.unusedSimpArgs false
mutual
def mortmainref06_Same.j0 : Nat → Bool → List (S84) → Int → Int → List (S84) → Int → Int → Option (Bool)
 | 0, _, _, _, _, _, _, _ => none
 | k + 1, x26, x181000, x181001, x181002, x182000, x182001, x182002 => if x26 = true then (some false) else (mortmainref06_Same.l0 k 0 x181000 x181001 x181002 x182000 x182001 x182002)
def mortmainref06_Same.l0 : Nat → Int → List (S84) → Int → Int → List (S84) → Int → Int → Option (Bool)
 | 0, _, _, _, _, _, _, _ => none
 | k + 1, x5, x181000, x181001, x181002, x182000, x182001, x182002 => if x5 < (x181000.length : Int) then (if 0 ≤ x5 then (if x5 < (x182000.length : Int) then (if ((rd_T84 x181000 x5).f0) = ((rd_T84 x182000 x5).f0) then (if ((rd_T84 x181000 x5).f1) = ((rd_T84 x182000 x5).f1) then ((mortmainref06_Alike.f k ((rd_T84 x181000 x5).f2.f0) ((rd_T84 x181000 x5).f2.f1) ((rd_T84 x181000 x5).f2.f2) ((rd_T84 x181000 x5).f2.f3) ((rd_T84 x181000 x5).f2.f4) ((rd_T84 x181000 x5).f2.f5) ((rd_T84 x182000 x5).f2.f0) ((rd_T84 x182000 x5).f2.f1) ((rd_T84 x182000 x5).f2.f2) ((rd_T84 x182000 x5).f2.f3) ((rd_T84 x182000 x5).f2.f4) ((rd_T84 x182000 x5).f2.f5)).bind fun t188 => (if t188 = true then (mortmainref06_Same.l0 k (wrap64 (x5 + 1)) x181000 x181001 x181002 x182000 x182001 x182002) else (some false))) else (some false)) else (some false)) else (none)) else (none)) else (some true)
end
def mortmainref06_Same.f (k : Nat) (l0_0 : List (S84)) (a0_1 : Int) (a0_2 : Int) (l1_0 : List (S84)) (a1_1 : Int) (a1_2 : Int) : Option (Bool) := if a0_1 = a1_1 then (if a0_2 = a1_2 then (mortmainref06_Same.j0 k ((l0_0.length : Int) != (l1_0.length : Int)) l0_0 a0_1 a0_2 l1_0 a1_1 a1_2) else (mortmainref06_Same.j0 k true l0_0 a0_1 a0_2 l1_0 a1_1 a1_2)) else (mortmainref06_Same.j0 k true l0_0 a0_1 a0_2 l1_0 a1_1 a1_2)
theorem mortmainref06_Same.mono_l : ∀ k, (∀ y0 y1 y2 y3 y4 y5 y6, LeO (mortmainref06_Same.j0 k y0 y1 y2 y3 y4 y5 y6) (mortmainref06_Same.j0 (k + 1) y0 y1 y2 y3 y4 y5 y6)) ∧ (∀ y0 y1 y2 y3 y4 y5 y6, LeO (mortmainref06_Same.l0 k y0 y1 y2 y3 y4 y5 y6) (mortmainref06_Same.l0 (k + 1) y0 y1 y2 y3 y4 y5 y6))
 | 0 => ⟨fun _ _ _ _ _ _ _ r h => by simp [mortmainref06_Same.j0] at h, fun _ _ _ _ _ _ _ r h => by simp [mortmainref06_Same.l0] at h⟩
 | k + 1 => by
  obtain ⟨ih0, ih1⟩ := mortmainref06_Same.mono_l k
  refine ⟨?_, ?_⟩
  ·intro y0 y1 y2 y3 y4 y5 y6
   unfold mortmainref06_Same.j0
   repeat' first
   | (with_reducible exact ih0 _ _ _ _ _ _ _)
   | (with_reducible exact ih1 _ _ _ _ _ _ _)
   | (with_reducible exact mortmainref06_Alike.mono _ _ _ _ _ _ _ _ _ _ _ _ _)
   | (with_reducible exact LeO.refl _)
   | (with_reducible exact LeO.none _)
   | (with_reducible refine LeO.ite ?_ ?_)
   | (with_reducible refine LeO.bind ?_ (fun _ => ?_))
   | exact ih0 _ _ _ _ _ _ _
   | exact ih1 _ _ _ _ _ _ _
   | exact mortmainref06_Alike.mono _ _ _ _ _ _ _ _ _ _ _ _ _
   | exact LeO.none _
   | refine LeO.ite ?_ ?_
   | refine LeO.bind ?_ (fun _ => ?_)
  ·intro y0 y1 y2 y3 y4 y5 y6
   unfold mortmainref06_Same.l0
   repeat' first
   | (with_reducible exact ih0 _ _ _ _ _ _ _)
   | (with_reducible exact ih1 _ _ _ _ _ _ _)
   | (with_reducible exact mortmainref06_Alike.mono _ _ _ _ _ _ _ _ _ _ _ _ _)
   | (with_reducible exact LeO.refl _)
   | (with_reducible exact LeO.none _)
   | (with_reducible refine LeO.ite ?_ ?_)
   | (with_reducible refine LeO.bind ?_ (fun _ => ?_))
   | exact ih0 _ _ _ _ _ _ _
   | exact ih1 _ _ _ _ _ _ _
   | exact mortmainref06_Alike.mono _ _ _ _ _ _ _ _ _ _ _ _ _
   | exact LeO.none _
   | refine LeO.ite ?_ ?_
   | refine LeO.bind ?_ (fun _ => ?_)
theorem mortmainref06_Same.mono : ∀ a0 a1 a2 a3 a4 a5 k, LeO (mortmainref06_Same.f k a0 a1 a2 a3 a4 a5) (mortmainref06_Same.f (k + 1) a0 a1 a2 a3 a4 a5) := by
 intro a0 a1 a2 a3 a4 a5 k
 obtain ⟨ih0, ih1⟩ := mortmainref06_Same.mono_l k
 unfold mortmainref06_Same.f
 repeat' first
   | (with_reducible exact ih0 _ _ _ _ _ _ _)
   | (with_reducible exact ih1 _ _ _ _ _ _ _)
   | (with_reducible exact mortmainref06_Alike.mono _ _ _ _ _ _ _ _ _ _ _ _ _)
   | (with_reducible exact LeO.refl _)
   | (with_reducible exact LeO.none _)
   | (with_reducible refine LeO.ite ?_ ?_)
   | (with_reducible refine LeO.bind ?_ (fun _ => ?_))
   | exact ih0 _ _ _ _ _ _ _
   | exact ih1 _ _ _ _ _ _ _
   | exact mortmainref06_Alike.mono _ _ _ _ _ _ _ _ _ _ _ _ _
   | exact LeO.none _
   | refine LeO.ite ?_ ?_
   | refine LeO.bind ?_ (fun _ => ?_)
def mortmainref06_Same.T6 : Bool × List (List Nat × List Nat) := (true, [([], []), ([0], [0]), ([], []), ([1, 2], [1, 2]), ([3], [3]), ([4], [4]), ([], []), ([6], [6]), ([], []), ([7, 8], [7, 8]), ([9], [9]), ([10], [10]), ([5, 11], [5, 11]), ([12], [12]), ([13], [13]), ([14, 13], [13, 14]), ([13], [13]), ([15, 16, 13], [13, 15, 16]), ([17, 13], [13, 17]), ([18, 13], [13, 18]), ([13], [13]), ([20, 13], [13, 20]), ([13], [13]), ([21, 22, 13], [13, 21, 22]), ([23, 13], [13, 23]), ([24, 13], [13, 24]), ([19, 25, 13], [13, 19, 25]), ([13, 26], [13, 26]), ([27, 13], [27]), ([28], [28]), ([29, 28], [28, 29]), ([28], [28]), ([30, 31, 28], [28, 30, 31]), ([32, 28], [28, 32]), ([33, 28], [28, 33]), ([28], [28]), ([35, 28], [28, 35]), ([28], [28]), ([36, 37, 28], [28, 36, 37]), ([38, 28], [28, 38]), ([39, 28], [28, 39]), ([34, 40, 28, 28], [28, 34, 40]), ([41, 28], [28, 41]), ([28, 42], [28, 42])])
def mortmainref06_Same.B6 : List Nat := [0, 1, 0, 7, 15, 31, 0, 64, 0, 448, 960, 1984, 4095, 8191, 16383, 32767, 16383, 131071, 262143, 524287, 16383, 1064959, 16383, 7356415, 15745023, 32522239, 67108863, 134217727, 268435455, 536870911, 1073741823, 536870911, 4294967295, 8589934591, 17179869183, 536870911, 34896609279, 536870911, 241055039487, 515932946431, 1065688760319, 2199023255551, 4398046511103, 8796093022207]
theorem mortmainref06_Same.tab6 : rtab .any (opsOf Try.f21 6) = mortmainref06_Same.T6 := by kernel_rfl
theorem mortmainref06_Same.bits6 : waitsOk mortmainref06_Same.T6.2 mortmainref06_Same.B6 = true := by kernel_rfl
set_option maxHeartbeats 8000000 in
set_option maxRecDepth 100000 in
theorem mortmainref06_Same.calls (k : Nat) (A0_0 : Option Addr) (c0_0 : Nat) (l0_0 : List (S84)) (a0_1 : Int) (a0_2 : Int) (A1_0 : Option Addr) (c1_0 : Nat) (l1_0 : List (S84)) (a1_1 : Int) (a1_2 : Int) (r : Bool) (w : World) (hr0_0 : Kd.C k84 w A0_0 l0_0.length l0_0) (hc0_0 : l0_0.length ≤ c0_0) (hr1_0 : Kd.C k84 w A1_0 l1_0.length l1_0) (hc1_0 : l1_0.length ≤ c1_0) (h : mortmainref06_Same.f k l0_0 a0_1 a0_2 l1_0 a1_1 a1_2 = some r) :
  Calls Try.prog 21 #[.agg #[.slice A0_0 l0_0.length c0_0, .int .i64 a0_1, .int .i64 a0_2], .agg #[.slice A1_0 l1_0.length c1_0, .int .i64 a1_1, .int .i64 a1_2]] w fun e w' => e = .returned (.bool r) ∧ Below w.heap.size w w' := by
 have hu37 := Try.underlying37
 have hu41 := Try.underlying41
 have HR0_0 := Aside0.mk hr0_0
 have HC0_0 := Aside0.mk hc0_0
 clear hr0_0 hc0_0
 have HR1_0 := Aside0.mk hr1_0
 have HC1_0 := Aside0.mk hc1_0
 clear hr1_0 hc1_0
 have HB := Aside0.mk (Below.refl w.heap.size w)
 have H : (if a0_1 = a1_1 then (if a0_2 = a1_2 then (mortmainref06_Same.j0 k ((l0_0.length : Int) != (l1_0.length : Int)) l0_0 a0_1 a0_2 l1_0 a1_1 a1_2) else (mortmainref06_Same.j0 k true l0_0 a0_1 a0_2 l1_0 a1_1 a1_2)) else (mortmainref06_Same.j0 k true l0_0 a0_1 a0_2 l1_0 a1_1 a1_2)) = some r := h
 clear h
 have HC3 := Aside0.mk H
 clear H
 go_enter Try.func21, Try.ntmps21
 go_upto_region 1 with (first | ((with_reducible refine gate_dst (N := 2) rfl ?_); (try (refine gate_guard (by rfl) ?_; dsimp only)); refine box_event ?hg (N := 2) ?hd (cs := #[.slice A0_0 l0_0.length c0_0, .int .i64 a0_1, .int .i64 a0_2]) (t := 37) ?hr ?_; (case hd => rfl); (case hg => rfl); (case hr => first | (go_simp; done) | (go_simp; rfl)); intro gb180 hg w4 hbox hb; have n0_ := Aside0.mk (below_step bT hb); have n1_ := Aside0.mk (hbox); have n2_ := Aside0.mk (gT hg bT); have n3_ := Aside0.mk (gT hg bT); clear HB; have HB := n0_; have BK180 := n1_; have GW180 := n2_; have GE180 := n3_; clear n0_ n1_ n2_ n3_; clear hb hbox hg) | ((with_reducible refine gate_dst (N := 3) rfl ?_); (try (refine gate_guard (by rfl) ?_; dsimp only)); refine box_event ?hg (N := 3) ?hd (cs := #[.slice A1_0 l1_0.length c1_0, .int .i64 a1_1, .int .i64 a1_2]) (t := 37) ?hr ?_; (case hd => rfl); (case hg => rfl); (case hr => first | (go_simp; done) | (go_simp; rfl)); intro gb181 hg w5 hbox hb; have n0_ := Aside0.mk (blk_below (g := gb180) (o := .cells #[.slice A0_0 l0_0.length c0_0, .int .i64 a0_1, .int .i64 a0_2] 37 (0, 0)) (kT BK180.out) hb); have n1_ := Aside0.mk (below_step (bG GE180.out) hb); have n2_ := Aside0.mk (hbox); have n3_ := Aside0.mk (gT hg (bG GE180.out)); have n4_ := Aside0.mk (gT hg (bG GE180.out)); have n5_ := Aside0.mk ((by rw [hg]; exact Nat.ne_of_lt (blk_lt (g := gb180) (o := .cells #[.slice A0_0 l0_0.length c0_0, .int .i64 a0_1, .int .i64 a0_2] 37 (0, 0)) (kT BK180.out)) : gb180 ≠ gb181)); have n6_ := Aside0.mk ((by rw [hg]; exact Nat.ne_of_gt (blk_lt (g := gb180) (o := .cells #[.slice A0_0 l0_0.length c0_0, .int .i64 a0_1, .int .i64 a0_2] 37 (0, 0)) (kT BK180.out)) : gb181 ≠ gb180)); clear BK180; clear HB; have BK180 := n0_; have HB := n1_; have BK181 := n2_; have GW181 := n3_; have GE181 := n4_; have NB180_181 := n5_; have NB181_180 := n6_; clear n0_ n1_ n2_ n3_ n4_ n5_ n6_; clear hb hbox hg))
 (try simp only [Act.put, q1, q2, q3])
 go_cut [26] (fun v26 wc => ∃ (kq : Nat) (x26_2 : Bool), v26 = .bool x26_2 ∧ Aside0 (mortmainref06_Same.j0 kq x26_2 l0_0 a0_1 a0_2 l1_0 a1_1 a1_2 = some r) ∧ Aside0 (kq ≤ k) ∧ Aside0 (wc.heap[gb180]? = some (.cells #[(.slice A0_0 l0_0.length c0_0), .int .i64 a0_1, .int .i64 a0_2] 37 (0, 0))) ∧ Aside0 (wc.heap[gb181]? = some (.cells #[(.slice A1_0 l1_0.length c1_0), .int .i64 a1_1, .int .i64 a1_2] 37 (0, 0))) ∧ Aside0 (Below w.heap.size w wc))
 case first =>
  have H := HC3.out
  clear HC3
  by_cases c6 : a0_1 = a1_1
  ·rw [if_pos c6] at H
   have c6b0 : (a0_1 == a1_1) = true := beq_iff_eq.mpr c6
   have c6b1 : (a0_1 != a1_1) = false := bne_eq_false_iff_eq.mpr c6
   clear c6
   (first | rw [c6b0] | (simp only [i64_w, i32_w]; rw [c6b0]) | skip)
   by_cases c7 : a0_2 = a1_2
   ·rw [if_pos c7] at H
    have c7b0 : (a0_2 == a1_2) = true := beq_iff_eq.mpr c7
    have c7b1 : (a0_2 != a1_2) = false := bne_eq_false_iff_eq.mpr c7
    clear c7
    have H' := Aside0.mk H
    clear H
    have hnb8 := NB180_181.out
    have hnc8 := NB181_180.out
    have hcz9_0 : w5.cell? ⟨gb180, 0, none⟩ = some (.slice A0_0 l0_0.length c0_0) := (blk_cell BK180.out 0).trans rfl
    have hcz9_1 : w5.cell? ⟨gb180, 1, none⟩ = some (.int .i64 a0_1) := (blk_cell BK180.out 1).trans rfl
    have hcz9_2 : w5.cell? ⟨gb180, 2, none⟩ = some (.int .i64 a0_2) := (blk_cell BK180.out 2).trans rfl
    have hfz9_0 := blk_frozen BK180.out 0
    have hfz9_1 := blk_frozen BK180.out 1
    have hfz9_2 := blk_frozen BK180.out 2
    have hcz10_0 : w5.cell? ⟨gb181, 0, none⟩ = some (.slice A1_0 l1_0.length c1_0) := (blk_cell BK181.out 0).trans rfl
    have hcz10_1 : w5.cell? ⟨gb181, 1, none⟩ = some (.int .i64 a1_1) := (blk_cell BK181.out 1).trans rfl
    have hcz10_2 : w5.cell? ⟨gb181, 2, none⟩ = some (.int .i64 a1_2) := (blk_cell BK181.out 2).trans rfl
    have hfz10_0 := blk_frozen BK181.out 0
    have hfz10_1 := blk_frozen BK181.out 1
    have hfz10_2 := blk_frozen BK181.out 2
    go_wp2
    go_meet
    case rel => exact ⟨_, (((l0_0.length : Int) != (l1_0.length : Int))), (by first | rfl | (simp; done) | (simp [*]; done)), H', ⟨by first | omega | exact Nat.le_refl _⟩, ⟨by (with_reducible repeat (first | refine blk_drewN ?_ _ | refine blk_drew ?_ | refine blk_alloc ?_ _)); exact BK180.out⟩, ⟨by (with_reducible repeat (first | refine blk_drewN ?_ _ | refine blk_drew ?_ | refine blk_alloc ?_ _)); exact BK181.out⟩, ⟨by repeat (first | (with_reducible first | exact HB.out | apply below_alloc | apply pw_below_drewN | apply below_drew1 | refine below_set ?_ GE180.out | refine below_set ?_ GE181.out) | exact HB.out)⟩⟩
   ·rw [if_neg c7] at H
    have c7b0 : (a0_2 == a1_2) = false := beq_eq_false_iff_ne.mpr c7
    have c7b1 : (a0_2 != a1_2) = true := bne_iff_ne.mpr c7
    have H' := Aside0.mk H
    clear H
    have hnb11 := NB180_181.out
    have hnc11 := NB181_180.out
    have hcz12_0 : w5.cell? ⟨gb180, 0, none⟩ = some (.slice A0_0 l0_0.length c0_0) := (blk_cell BK180.out 0).trans rfl
    have hcz12_1 : w5.cell? ⟨gb180, 1, none⟩ = some (.int .i64 a0_1) := (blk_cell BK180.out 1).trans rfl
    have hcz12_2 : w5.cell? ⟨gb180, 2, none⟩ = some (.int .i64 a0_2) := (blk_cell BK180.out 2).trans rfl
    have hfz12_0 := blk_frozen BK180.out 0
    have hfz12_1 := blk_frozen BK180.out 1
    have hfz12_2 := blk_frozen BK180.out 2
    have hcz13_0 : w5.cell? ⟨gb181, 0, none⟩ = some (.slice A1_0 l1_0.length c1_0) := (blk_cell BK181.out 0).trans rfl
    have hcz13_1 : w5.cell? ⟨gb181, 1, none⟩ = some (.int .i64 a1_1) := (blk_cell BK181.out 1).trans rfl
    have hcz13_2 : w5.cell? ⟨gb181, 2, none⟩ = some (.int .i64 a1_2) := (blk_cell BK181.out 2).trans rfl
    have hfz13_0 := blk_frozen BK181.out 0
    have hfz13_1 := blk_frozen BK181.out 1
    have hfz13_2 := blk_frozen BK181.out 2
    go_wp2
    go_meet
    case rel => exact ⟨_, (true), (by first | rfl | (simp; done) | (simp [*]; done)), H', ⟨by first | omega | exact Nat.le_refl _⟩, ⟨by (with_reducible repeat (first | refine blk_drewN ?_ _ | refine blk_drew ?_ | refine blk_alloc ?_ _)); exact BK180.out⟩, ⟨by (with_reducible repeat (first | refine blk_drewN ?_ _ | refine blk_drew ?_ | refine blk_alloc ?_ _)); exact BK181.out⟩, ⟨by repeat (first | (with_reducible first | exact HB.out | apply below_alloc | apply pw_below_drewN | apply below_drew1 | refine below_set ?_ GE180.out | refine below_set ?_ GE181.out) | exact HB.out)⟩⟩
  ·rw [if_neg c6] at H
   have c6b0 : (a0_1 == a1_1) = false := beq_eq_false_iff_ne.mpr c6
   have c6b1 : (a0_1 != a1_1) = true := bne_iff_ne.mpr c6
   (first | rw [c6b0] | (simp only [i64_w, i32_w]; rw [c6b0]) | skip)
   have H' := Aside0.mk H
   clear H
   have hnb14 := NB180_181.out
   have hnc14 := NB181_180.out
   have hcz15_0 : w5.cell? ⟨gb180, 0, none⟩ = some (.slice A0_0 l0_0.length c0_0) := (blk_cell BK180.out 0).trans rfl
   have hcz15_1 : w5.cell? ⟨gb180, 1, none⟩ = some (.int .i64 a0_1) := (blk_cell BK180.out 1).trans rfl
   have hcz15_2 : w5.cell? ⟨gb180, 2, none⟩ = some (.int .i64 a0_2) := (blk_cell BK180.out 2).trans rfl
   have hfz15_0 := blk_frozen BK180.out 0
   have hfz15_1 := blk_frozen BK180.out 1
   have hfz15_2 := blk_frozen BK180.out 2
   have hcz16_0 : w5.cell? ⟨gb181, 0, none⟩ = some (.slice A1_0 l1_0.length c1_0) := (blk_cell BK181.out 0).trans rfl
   have hcz16_1 : w5.cell? ⟨gb181, 1, none⟩ = some (.int .i64 a1_1) := (blk_cell BK181.out 1).trans rfl
   have hcz16_2 : w5.cell? ⟨gb181, 2, none⟩ = some (.int .i64 a1_2) := (blk_cell BK181.out 2).trans rfl
   have hfz16_0 := blk_frozen BK181.out 0
   have hfz16_1 := blk_frozen BK181.out 1
   have hfz16_2 := blk_frozen BK181.out 2
   go_wp2
   go_meet
   case rel => exact ⟨_, (true), (by first | rfl | (simp; done) | (simp [*]; done)), H', ⟨by first | omega | exact Nat.le_refl _⟩, ⟨by (with_reducible repeat (first | refine blk_drewN ?_ _ | refine blk_drew ?_ | refine blk_alloc ?_ _)); exact BK180.out⟩, ⟨by (with_reducible repeat (first | refine blk_drewN ?_ _ | refine blk_drew ?_ | refine blk_alloc ?_ _)); exact BK181.out⟩, ⟨by repeat (first | (with_reducible first | exact HB.out | apply below_alloc | apply pw_below_drewN | apply below_drew1 | refine below_set ?_ GE180.out | refine below_set ?_ GE181.out) | exact HB.out)⟩⟩
 case rest =>
  clear HC3
  try clear c1
  try clear c2
  try clear p2
  try clear c6
  try clear c6b0
  try clear c6b1
  try clear c7
  try clear c7b0
  try clear c7b1
  try clear c8
  try clear c11
  try clear c14
  try clear hcz10_0
  try clear hcz10_1
  try clear hcz10_2
  try clear hcz12_0
  try clear hcz12_1
  try clear hcz12_2
  try clear hcz13_0
  try clear hcz13_1
  try clear hcz13_2
  try clear hcz15_0
  try clear hcz15_1
  try clear hcz15_2
  try clear hcz16_0
  try clear hcz16_1
  try clear hcz16_2
  try clear hcz9_0
  try clear hcz9_1
  try clear hcz9_2
  try clear hfz10_0
  try clear hfz10_1
  try clear hfz10_2
  try clear hfz12_0
  try clear hfz12_1
  try clear hfz12_2
  try clear hfz13_0
  try clear hfz13_1
  try clear hfz13_2
  try clear hfz15_0
  try clear hfz15_1
  try clear hfz15_2
  try clear hfz16_0
  try clear hfz16_1
  try clear hfz16_2
  try clear hfz9_0
  try clear hfz9_1
  try clear hfz9_2
  obtain ⟨kq, x26_2, rfl, HA, HJ2, BK180, BK181, HB⟩ := hcut
  cases kq with
  | zero => exact absurd HA.out (by simp [mortmainref06_Same.j0])
  | succ kj2 =>
   have H := HA.out
   clear HA
   simp only [mortmainref06_Same.j0] at H
   by_cases c17 : x26_2 = true
   ·subst c17
    have H1 : (some false) = some r := by rw [if_pos rfl] at H; exact H
    clear H
    have H := H1
    clear H1
    obtain rfl := Option.some.inj H
    go_wp2
    go_ret
    exact ⟨by first | rfl | (simp [errW_none, errW_some] <;> rfl) | (simp [*, errW_none, errW_some] <;> rfl), by repeat (first | (with_reducible first | exact HB.out | apply below_alloc | apply pw_below_drewN | apply below_drew1 | refine below_set ?_ GE180.out | refine below_set ?_ GE181.out) | exact HB.out)⟩
   ·replace c17 := Bool.eq_false_iff.mpr c17
    subst c17
    have H1 : (mortmainref06_Same.l0 kj2 0 l0_0 a0_1 a0_2 l1_0 a1_1 a1_2) = some r := by rw [if_neg (show ¬ (false = true) by decide)] at H; exact H
    clear H
    have H := H1
    clear H1
    have H' := Aside0.mk H
    clear H
    go_wp2
    go_loopg [5] kj2 (fun kq v5 w' => ∃ (x5_2 : Int), v5 = .int .i64 x5_2 ∧ Aside0 (mortmainref06_Same.l0 kq x5_2 l0_0 a0_1 a0_2 l1_0 a1_1 a1_2 = some r) ∧ Aside0 (kq ≤ kj2) ∧ Aside0 (w'.heap[gb180]? = some (.cells #[(.slice A0_0 l0_0.length c0_0), .int .i64 a0_1, .int .i64 a0_2] 37 (0, 0))) ∧ Aside0 (w'.heap[gb181]? = some (.cells #[(.slice A1_0 l1_0.length c1_0), .int .i64 a1_1, .int .i64 a1_2] 37 (0, 0))) ∧ Aside0 (Below w.heap.size w w'))
    case atStart => exact ⟨(0), (by first | rfl | (simp; done) | (simp [*]; done)), H', ⟨Nat.le_refl _⟩, ⟨by (with_reducible repeat (first | refine blk_drewN ?_ _ | refine blk_drew ?_ | refine blk_alloc ?_ _)); exact BK180.out⟩, ⟨by (with_reducible repeat (first | refine blk_drewN ?_ _ | refine blk_drew ?_ | refine blk_alloc ?_ _)); exact BK181.out⟩, ⟨by repeat (first | (with_reducible first | exact HB.out | apply below_alloc | apply pw_below_drewN | apply below_drew1 | refine below_set ?_ GE180.out | refine below_set ?_ GE181.out) | exact HB.out)⟩⟩
    case round =>
     clear H'
     try clear c1
     try clear c2
     try clear p2
     try clear c6
     try clear c6b0
     try clear c6b1
     try clear c7
     try clear c7b0
     try clear c7b1
     try clear c8
     try clear c11
     try clear c14
     try clear c17
     try clear hcz10_0
     try clear hcz10_1
     try clear hcz10_2
     try clear hcz12_0
     try clear hcz12_1
     try clear hcz12_2
     try clear hcz13_0
     try clear hcz13_1
     try clear hcz13_2
     try clear hcz15_0
     try clear hcz15_1
     try clear hcz15_2
     try clear hcz16_0
     try clear hcz16_1
     try clear hcz16_2
     try clear hcz9_0
     try clear hcz9_1
     try clear hcz9_2
     try clear hfz10_0
     try clear hfz10_1
     try clear hfz10_2
     try clear hfz12_0
     try clear hfz12_1
     try clear hfz12_2
     try clear hfz13_0
     try clear hfz13_1
     try clear hfz13_2
     try clear hfz15_0
     try clear hfz15_1
     try clear hfz15_2
     try clear hfz16_0
     try clear hfz16_1
     try clear hfz16_2
     try clear hfz9_0
     try clear hfz9_1
     try clear hfz9_2
     try clear p2
     obtain ⟨x5_2, rfl, HA, HK2, BK180, BK181, HB⟩ := hrel
     cases gk with
     | zero => exact absurd HA.out (by simp [mortmainref06_Same.l0])
     | succ k2 =>
      have H := HA.out
      clear HA
      simp only [mortmainref06_Same.l0] at H
      by_cases c18 : x5_2 < (l0_0.length : Int)
      ·rw [if_pos c18] at H
       have c18b0 : decide (x5_2 < (l0_0.length : Int)) = true := decide_eq_true c18
       clear c18
       by_cases c19 : 0 ≤ x5_2
       ·rw [if_pos c19] at H
        have c19b0 : decide (0 ≤ x5_2) = true := decide_eq_true c19
        clear c19
        by_cases c20 : x5_2 < (l1_0.length : Int)
        ·rw [if_pos c20] at H
         have c20b0 : decide (x5_2 < (l1_0.length : Int)) = true := decide_eq_true c20
         clear c20
         by_cases c21 : ((rd_T84 l0_0 x5_2).f0) = ((rd_T84 l1_0 x5_2).f0)
         ·rw [if_pos c21] at H
          have c21b0 : (((rd_T84 l0_0 x5_2).f0) == ((rd_T84 l1_0 x5_2).f0)) = true := beq_iff_eq.mpr c21
          have c21b1 : (((rd_T84 l0_0 x5_2).f0) != ((rd_T84 l1_0 x5_2).f0)) = false := bne_eq_false_iff_eq.mpr c21
          clear c21
          by_cases c22 : ((rd_T84 l0_0 x5_2).f1) = ((rd_T84 l1_0 x5_2).f1)
          ·rw [if_pos c22] at H
           have c22b0 : (((rd_T84 l0_0 x5_2).f1) == ((rd_T84 l1_0 x5_2).f1)) = true := beq_iff_eq.mpr c22
           have c22b1 : (((rd_T84 l0_0 x5_2).f1) != ((rd_T84 l1_0 x5_2).f1)) = false := bne_eq_false_iff_eq.mpr c22
           clear c22
           replace H := Option.bind_eq_some_iff.mp H
           obtain ⟨t188, A230, H⟩ := H
           replace H : (if t188 = true then (mortmainref06_Same.l0 k2 (wrap64 (x5_2 + 1)) l0_0 a0_1 a0_2 l1_0 a1_1 a1_2) else (some false)) = some r := H
           have A23 := Aside0.mk A230
           clear A230
           have H' := Aside0.mk H
           clear H
           have hnb25 := NB180_181.out
           have hnc25 := NB181_180.out
           have hcz26_0 : wr.cell? ⟨gb180, 0, none⟩ = some (.slice A0_0 l0_0.length c0_0) := (blk_cell BK180.out 0).trans rfl
           have hcz26_1 : wr.cell? ⟨gb180, 1, none⟩ = some (.int .i64 a0_1) := (blk_cell BK180.out 1).trans rfl
           have hcz26_2 : wr.cell? ⟨gb180, 2, none⟩ = some (.int .i64 a0_2) := (blk_cell BK180.out 2).trans rfl
           have hfz26_0 := blk_frozen BK180.out 0
           have hfz26_1 := blk_frozen BK180.out 1
           have hfz26_2 := blk_frozen BK180.out 2
           try go_wp2
           have n0_ := Aside0.mk (blk_drew BK180.out)
           have n1_ := Aside0.mk (blk_drew BK181.out)
           have n2_ := Aside0.mk (below_drew1 HB.out)
           clear BK180
           clear BK181
           clear HB
           have BK180 := n0_
           have BK181 := n1_
           have HB := n2_
           clear n0_ n1_ n2_
           have p182 : 0 ≤ (x5_2 : Int) := oT
           have q182 : x5_2 < (l0_0.length : Int) := oT
           obtain ⟨ad182, A182_7, c182_7, e182, hx182_0, hx182_1, hx182_2, hx182_3, hx182_4, hx182_5, hx182_6, hx182_7, hl182_7, hi182_7⟩ := at_T84 HR0_0.out x5_2 p182 q182
           have hw182_7 := hx182_7
           have hw182_6 := hx182_6
           have hw182_5 := hx182_5
           have hw182_4 := hx182_4
           have hw182_3 := hx182_3
           have hw182_2 := hx182_2
           have hw182_1 := hx182_1
           have hw182_0 := hx182_0
           cases e182
           replace hx182_0 := cT HB.out hx182_0
           replace hx182_1 := cT HB.out hx182_1
           replace hx182_2 := cT HB.out hx182_2
           replace hx182_3 := cT HB.out hx182_3
           replace hx182_4 := cT HB.out hx182_4
           replace hx182_5 := cT HB.out hx182_5
           replace hx182_6 := cT HB.out hx182_6
           replace hx182_7 := cT HB.out hx182_7
           have HR182_7 := Aside0.mk hi182_7
           have HC182_7 := Aside0.mk hl182_7
           clear hi182_7 hl182_7
           replace p182 := eq_true p182
           replace q182 := eq_true q182
           have p183 : 0 ≤ (x5_2 : Int) := oT
           have q183 : x5_2 < (l1_0.length : Int) := oT
           obtain ⟨ad183, A183_7, c183_7, e183, hx183_0, hx183_1, hx183_2, hx183_3, hx183_4, hx183_5, hx183_6, hx183_7, hl183_7, hi183_7⟩ := at_T84 HR1_0.out x5_2 p183 q183
           have hw183_7 := hx183_7
           have hw183_6 := hx183_6
           have hw183_5 := hx183_5
           have hw183_4 := hx183_4
           have hw183_3 := hx183_3
           have hw183_2 := hx183_2
           have hw183_1 := hx183_1
           have hw183_0 := hx183_0
           cases e183
           replace hx183_0 := cT HB.out hx183_0
           replace hx183_1 := cT HB.out hx183_1
           replace hx183_2 := cT HB.out hx183_2
           replace hx183_3 := cT HB.out hx183_3
           replace hx183_4 := cT HB.out hx183_4
           replace hx183_5 := cT HB.out hx183_5
           replace hx183_6 := cT HB.out hx183_6
           replace hx183_7 := cT HB.out hx183_7
           have HR183_7 := Aside0.mk hi183_7
           have HC183_7 := Aside0.mk hl183_7
           clear hi183_7 hl183_7
           replace p183 := eq_true p183
           replace q183 := eq_true q183
           have p184 : 0 ≤ (x5_2 : Int) := oT
           have q184 : x5_2 < (l0_0.length : Int) := oT
           obtain ⟨ad184, A184_7, c184_7, e184, hx184_0, hx184_1, hx184_2, hx184_3, hx184_4, hx184_5, hx184_6, hx184_7, hl184_7, hi184_7⟩ := at_T84 HR0_0.out x5_2 p184 q184
           have hw184_7 := hx184_7
           have hw184_6 := hx184_6
           have hw184_5 := hx184_5
           have hw184_4 := hx184_4
           have hw184_3 := hx184_3
           have hw184_2 := hx184_2
           have hw184_1 := hx184_1
           have hw184_0 := hx184_0
           obtain rfl : ad182 = ad184 := (by injection e184)
           replace hx184_0 := cT HB.out hx184_0
           replace hx184_1 := cT HB.out hx184_1
           replace hx184_2 := cT HB.out hx184_2
           replace hx184_3 := cT HB.out hx184_3
           replace hx184_4 := cT HB.out hx184_4
           replace hx184_5 := cT HB.out hx184_5
           replace hx184_6 := cT HB.out hx184_6
           replace hx184_7 := cT HB.out hx184_7
           have HR184_7 := Aside0.mk hi184_7
           have HC184_7 := Aside0.mk hl184_7
           clear hi184_7 hl184_7
           replace p184 := eq_true p184
           replace q184 := eq_true q184
           have ea_ := Option.some.inj (hx182_7.symm.trans hx184_7)
           injection ea_ with ea_ en_ ec_
           subst ea_
           subst ec_
           clear en_
           have p185 : 0 ≤ (x5_2 : Int) := oT
           have q185 : x5_2 < (l1_0.length : Int) := oT
           obtain ⟨ad185, A185_7, c185_7, e185, hx185_0, hx185_1, hx185_2, hx185_3, hx185_4, hx185_5, hx185_6, hx185_7, hl185_7, hi185_7⟩ := at_T84 HR1_0.out x5_2 p185 q185
           have hw185_7 := hx185_7
           have hw185_6 := hx185_6
           have hw185_5 := hx185_5
           have hw185_4 := hx185_4
           have hw185_3 := hx185_3
           have hw185_2 := hx185_2
           have hw185_1 := hx185_1
           have hw185_0 := hx185_0
           obtain rfl : ad183 = ad185 := (by injection e185)
           replace hx185_0 := cT HB.out hx185_0
           replace hx185_1 := cT HB.out hx185_1
           replace hx185_2 := cT HB.out hx185_2
           replace hx185_3 := cT HB.out hx185_3
           replace hx185_4 := cT HB.out hx185_4
           replace hx185_5 := cT HB.out hx185_5
           replace hx185_6 := cT HB.out hx185_6
           replace hx185_7 := cT HB.out hx185_7
           have HR185_7 := Aside0.mk hi185_7
           have HC185_7 := Aside0.mk hl185_7
           clear hi185_7 hl185_7
           replace p185 := eq_true p185
           replace q185 := eq_true q185
           have ea_ := Option.some.inj (hx183_7.symm.trans hx185_7)
           injection ea_ with ea_ en_ ec_
           subst ea_
           subst ec_
           clear en_
           have p186 : 0 ≤ (x5_2 : Int) := oT
           have q186 : x5_2 < (l0_0.length : Int) := oT
           obtain ⟨ad186, A186_7, c186_7, e186, hx186_0, hx186_1, hx186_2, hx186_3, hx186_4, hx186_5, hx186_6, hx186_7, hl186_7, hi186_7⟩ := at_T84 HR0_0.out x5_2 p186 q186
           have hw186_7 := hx186_7
           have hw186_6 := hx186_6
           have hw186_5 := hx186_5
           have hw186_4 := hx186_4
           have hw186_3 := hx186_3
           have hw186_2 := hx186_2
           have hw186_1 := hx186_1
           have hw186_0 := hx186_0
           obtain rfl : ad182 = ad186 := (by injection e186)
           replace hx186_0 := cT HB.out hx186_0
           replace hx186_1 := cT HB.out hx186_1
           replace hx186_2 := cT HB.out hx186_2
           replace hx186_3 := cT HB.out hx186_3
           replace hx186_4 := cT HB.out hx186_4
           replace hx186_5 := cT HB.out hx186_5
           replace hx186_6 := cT HB.out hx186_6
           replace hx186_7 := cT HB.out hx186_7
           have HR186_7 := Aside0.mk hi186_7
           have HC186_7 := Aside0.mk hl186_7
           clear hi186_7 hl186_7
           replace p186 := eq_true p186
           replace q186 := eq_true q186
           have ea_ := Option.some.inj (hx182_7.symm.trans hx186_7)
           injection ea_ with ea_ en_ ec_
           subst ea_
           subst ec_
           clear en_
           have p187 : 0 ≤ (x5_2 : Int) := oT
           have q187 : x5_2 < (l1_0.length : Int) := oT
           obtain ⟨ad187, A187_7, c187_7, e187, hx187_0, hx187_1, hx187_2, hx187_3, hx187_4, hx187_5, hx187_6, hx187_7, hl187_7, hi187_7⟩ := at_T84 HR1_0.out x5_2 p187 q187
           have hw187_7 := hx187_7
           have hw187_6 := hx187_6
           have hw187_5 := hx187_5
           have hw187_4 := hx187_4
           have hw187_3 := hx187_3
           have hw187_2 := hx187_2
           have hw187_1 := hx187_1
           have hw187_0 := hx187_0
           obtain rfl : ad183 = ad187 := (by injection e187)
           replace hx187_0 := cT HB.out hx187_0
           replace hx187_1 := cT HB.out hx187_1
           replace hx187_2 := cT HB.out hx187_2
           replace hx187_3 := cT HB.out hx187_3
           replace hx187_4 := cT HB.out hx187_4
           replace hx187_5 := cT HB.out hx187_5
           replace hx187_6 := cT HB.out hx187_6
           replace hx187_7 := cT HB.out hx187_7
           have HR187_7 := Aside0.mk hi187_7
           have HC187_7 := Aside0.mk hl187_7
           clear hi187_7 hl187_7
           replace p187 := eq_true p187
           replace q187 := eq_true q187
           have ea_ := Option.some.inj (hx183_7.symm.trans hx187_7)
           injection ea_ with ea_ en_ ec_
           subst ea_
           subst ec_
           clear en_
           refine start_ (n := 44) (S := fun w' => w'.cell? ⟨gb180, 0, none⟩ = some (.slice (some ad182) l0_0.length c0_0) ∧ w'.cell? ⟨gb180, 1, none⟩ = some (.int .i64 a0_1) ∧ w'.cell? ⟨gb180, 2, none⟩ = some (.int .i64 a0_2) ∧ w'.cell? ⟨gb181, 0, none⟩ = some (.slice (some ad183) l1_0.length c1_0) ∧ w'.cell? ⟨gb181, 1, none⟩ = some (.int .i64 a1_1) ∧ w'.cell? ⟨gb181, 2, none⟩ = some (.int .i64 a1_2) ∧ w'.cell? (ad182.add ((x5_2).toNat * 8)) = some (.int .i64 ((rd_T84 l0_0 x5_2).f0)) ∧ w'.cell? ⟨(ad182.add ((x5_2).toNat * 8)).block, (ad182.add ((x5_2).toNat * 8)).off + 1, none⟩ = some (.int .i64 ((rd_T84 l0_0 x5_2).f1)) ∧ w'.cell? ⟨(ad182.add ((x5_2).toNat * 8)).block, (ad182.add ((x5_2).toNat * 8)).off + 2, none⟩ = some (.int .i64 ((rd_T84 l0_0 x5_2).f2.f0)) ∧ w'.cell? ⟨(ad182.add ((x5_2).toNat * 8)).block, (ad182.add ((x5_2).toNat * 8)).off + 3, none⟩ = some (.int .i64 ((rd_T84 l0_0 x5_2).f2.f1)) ∧ w'.cell? ⟨(ad182.add ((x5_2).toNat * 8)).block, (ad182.add ((x5_2).toNat * 8)).off + 4, none⟩ = some (.int .i64 ((rd_T84 l0_0 x5_2).f2.f2)) ∧ w'.cell? ⟨(ad182.add ((x5_2).toNat * 8)).block, (ad182.add ((x5_2).toNat * 8)).off + 5, none⟩ = some (.int .i64 ((rd_T84 l0_0 x5_2).f2.f3)) ∧ w'.cell? ⟨(ad182.add ((x5_2).toNat * 8)).block, (ad182.add ((x5_2).toNat * 8)).off + 6, none⟩ = some (.bool ((rd_T84 l0_0 x5_2).f2.f4)) ∧ w'.cell? ⟨(ad182.add ((x5_2).toNat * 8)).block, (ad182.add ((x5_2).toNat * 8)).off + 7, none⟩ = some (.slice A182_7 ((rd_T84 l0_0 x5_2).f2.f5).length c182_7) ∧ w'.cell? (ad183.add ((x5_2).toNat * 8)) = some (.int .i64 ((rd_T84 l1_0 x5_2).f0)) ∧ w'.cell? ⟨(ad183.add ((x5_2).toNat * 8)).block, (ad183.add ((x5_2).toNat * 8)).off + 1, none⟩ = some (.int .i64 ((rd_T84 l1_0 x5_2).f1)) ∧ w'.cell? ⟨(ad183.add ((x5_2).toNat * 8)).block, (ad183.add ((x5_2).toNat * 8)).off + 2, none⟩ = some (.int .i64 ((rd_T84 l1_0 x5_2).f2.f0)) ∧ w'.cell? ⟨(ad183.add ((x5_2).toNat * 8)).block, (ad183.add ((x5_2).toNat * 8)).off + 3, none⟩ = some (.int .i64 ((rd_T84 l1_0 x5_2).f2.f1)) ∧ w'.cell? ⟨(ad183.add ((x5_2).toNat * 8)).block, (ad183.add ((x5_2).toNat * 8)).off + 4, none⟩ = some (.int .i64 ((rd_T84 l1_0 x5_2).f2.f2)) ∧ w'.cell? ⟨(ad183.add ((x5_2).toNat * 8)).block, (ad183.add ((x5_2).toNat * 8)).off + 5, none⟩ = some (.int .i64 ((rd_T84 l1_0 x5_2).f2.f3)) ∧ w'.cell? ⟨(ad183.add ((x5_2).toNat * 8)).block, (ad183.add ((x5_2).toNat * 8)).off + 6, none⟩ = some (.bool ((rd_T84 l1_0 x5_2).f2.f4)) ∧ w'.cell? ⟨(ad183.add ((x5_2).toNat * 8)).block, (ad183.add ((x5_2).toNat * 8)).off + 7, none⟩ = some (.slice A183_7 ((rd_T84 l1_0 x5_2).f2.f5).length c183_7) ∧ w'.cell? (ad182.add ((x5_2).toNat * 8)) = some (.int .i64 ((rd_T84 l0_0 x5_2).f0)) ∧ w'.cell? ⟨(ad182.add ((x5_2).toNat * 8)).block, (ad182.add ((x5_2).toNat * 8)).off + 1, none⟩ = some (.int .i64 ((rd_T84 l0_0 x5_2).f1)) ∧ w'.cell? ⟨(ad182.add ((x5_2).toNat * 8)).block, (ad182.add ((x5_2).toNat * 8)).off + 2, none⟩ = some (.int .i64 ((rd_T84 l0_0 x5_2).f2.f0)) ∧ w'.cell? ⟨(ad182.add ((x5_2).toNat * 8)).block, (ad182.add ((x5_2).toNat * 8)).off + 3, none⟩ = some (.int .i64 ((rd_T84 l0_0 x5_2).f2.f1)) ∧ w'.cell? ⟨(ad182.add ((x5_2).toNat * 8)).block, (ad182.add ((x5_2).toNat * 8)).off + 4, none⟩ = some (.int .i64 ((rd_T84 l0_0 x5_2).f2.f2)) ∧ w'.cell? ⟨(ad182.add ((x5_2).toNat * 8)).block, (ad182.add ((x5_2).toNat * 8)).off + 5, none⟩ = some (.int .i64 ((rd_T84 l0_0 x5_2).f2.f3)) ∧ w'.cell? ⟨(ad182.add ((x5_2).toNat * 8)).block, (ad182.add ((x5_2).toNat * 8)).off + 6, none⟩ = some (.bool ((rd_T84 l0_0 x5_2).f2.f4)) ∧ w'.cell? ⟨(ad182.add ((x5_2).toNat * 8)).block, (ad182.add ((x5_2).toNat * 8)).off + 7, none⟩ = some (.slice A182_7 ((rd_T84 l0_0 x5_2).f2.f5).length c182_7) ∧ w'.cell? (ad183.add ((x5_2).toNat * 8)) = some (.int .i64 ((rd_T84 l1_0 x5_2).f0)) ∧ w'.cell? ⟨(ad183.add ((x5_2).toNat * 8)).block, (ad183.add ((x5_2).toNat * 8)).off + 1, none⟩ = some (.int .i64 ((rd_T84 l1_0 x5_2).f1)) ∧ w'.cell? ⟨(ad183.add ((x5_2).toNat * 8)).block, (ad183.add ((x5_2).toNat * 8)).off + 2, none⟩ = some (.int .i64 ((rd_T84 l1_0 x5_2).f2.f0)) ∧ w'.cell? ⟨(ad183.add ((x5_2).toNat * 8)).block, (ad183.add ((x5_2).toNat * 8)).off + 3, none⟩ = some (.int .i64 ((rd_T84 l1_0 x5_2).f2.f1)) ∧ w'.cell? ⟨(ad183.add ((x5_2).toNat * 8)).block, (ad183.add ((x5_2).toNat * 8)).off + 4, none⟩ = some (.int .i64 ((rd_T84 l1_0 x5_2).f2.f2)) ∧ w'.cell? ⟨(ad183.add ((x5_2).toNat * 8)).block, (ad183.add ((x5_2).toNat * 8)).off + 5, none⟩ = some (.int .i64 ((rd_T84 l1_0 x5_2).f2.f3)) ∧ w'.cell? ⟨(ad183.add ((x5_2).toNat * 8)).block, (ad183.add ((x5_2).toNat * 8)).off + 6, none⟩ = some (.bool ((rd_T84 l1_0 x5_2).f2.f4)) ∧ w'.cell? ⟨(ad183.add ((x5_2).toNat * 8)).block, (ad183.add ((x5_2).toNat * 8)).off + 7, none⟩ = some (.slice A183_7 ((rd_T84 l1_0 x5_2).f2.f5).length c183_7) ∧ w'.cell? (ad182.add ((x5_2).toNat * 8)) = some (.int .i64 ((rd_T84 l0_0 x5_2).f0)) ∧ w'.cell? ⟨(ad182.add ((x5_2).toNat * 8)).block, (ad182.add ((x5_2).toNat * 8)).off + 1, none⟩ = some (.int .i64 ((rd_T84 l0_0 x5_2).f1)) ∧ w'.cell? ⟨(ad182.add ((x5_2).toNat * 8)).block, (ad182.add ((x5_2).toNat * 8)).off + 2, none⟩ = some (.int .i64 ((rd_T84 l0_0 x5_2).f2.f0)) ∧ w'.cell? ⟨(ad182.add ((x5_2).toNat * 8)).block, (ad182.add ((x5_2).toNat * 8)).off + 3, none⟩ = some (.int .i64 ((rd_T84 l0_0 x5_2).f2.f1)) ∧ w'.cell? ⟨(ad182.add ((x5_2).toNat * 8)).block, (ad182.add ((x5_2).toNat * 8)).off + 4, none⟩ = some (.int .i64 ((rd_T84 l0_0 x5_2).f2.f2)) ∧ w'.cell? ⟨(ad182.add ((x5_2).toNat * 8)).block, (ad182.add ((x5_2).toNat * 8)).off + 5, none⟩ = some (.int .i64 ((rd_T84 l0_0 x5_2).f2.f3)) ∧ w'.cell? ⟨(ad182.add ((x5_2).toNat * 8)).block, (ad182.add ((x5_2).toNat * 8)).off + 6, none⟩ = some (.bool ((rd_T84 l0_0 x5_2).f2.f4)) ∧ w'.cell? ⟨(ad182.add ((x5_2).toNat * 8)).block, (ad182.add ((x5_2).toNat * 8)).off + 7, none⟩ = some (.slice A182_7 ((rd_T84 l0_0 x5_2).f2.f5).length c182_7) ∧ w'.cell? (ad183.add ((x5_2).toNat * 8)) = some (.int .i64 ((rd_T84 l1_0 x5_2).f0)) ∧ w'.cell? ⟨(ad183.add ((x5_2).toNat * 8)).block, (ad183.add ((x5_2).toNat * 8)).off + 1, none⟩ = some (.int .i64 ((rd_T84 l1_0 x5_2).f1)) ∧ w'.cell? ⟨(ad183.add ((x5_2).toNat * 8)).block, (ad183.add ((x5_2).toNat * 8)).off + 2, none⟩ = some (.int .i64 ((rd_T84 l1_0 x5_2).f2.f0)) ∧ w'.cell? ⟨(ad183.add ((x5_2).toNat * 8)).block, (ad183.add ((x5_2).toNat * 8)).off + 3, none⟩ = some (.int .i64 ((rd_T84 l1_0 x5_2).f2.f1)) ∧ w'.cell? ⟨(ad183.add ((x5_2).toNat * 8)).block, (ad183.add ((x5_2).toNat * 8)).off + 4, none⟩ = some (.int .i64 ((rd_T84 l1_0 x5_2).f2.f2)) ∧ w'.cell? ⟨(ad183.add ((x5_2).toNat * 8)).block, (ad183.add ((x5_2).toNat * 8)).off + 5, none⟩ = some (.int .i64 ((rd_T84 l1_0 x5_2).f2.f3)) ∧ w'.cell? ⟨(ad183.add ((x5_2).toNat * 8)).block, (ad183.add ((x5_2).toNat * 8)).off + 6, none⟩ = some (.bool ((rd_T84 l1_0 x5_2).f2.f4)) ∧ w'.cell? ⟨(ad183.add ((x5_2).toNat * 8)).block, (ad183.add ((x5_2).toNat * 8)).off + 7, none⟩ = some (.slice A183_7 ((rd_T84 l1_0 x5_2).f2.f5).length c183_7)) (ds := []) (bA 44 0) (by kernel_rfl) rfl rfl ⟨(blk_cell BK180.out 0).trans rfl, (blk_cell BK180.out 1).trans rfl, (blk_cell BK180.out 2).trans rfl, (blk_cell BK181.out 0).trans rfl, (blk_cell BK181.out 1).trans rfl, (blk_cell BK181.out 2).trans rfl, (cT HB.out hw182_0), (cT HB.out hw182_1), (cT HB.out hw182_2), (cT HB.out hw182_3), (cT HB.out hw182_4), (cT HB.out hw182_5), (cT HB.out hw182_6), (cT HB.out hw182_7), (cT HB.out hw183_0), (cT HB.out hw183_1), (cT HB.out hw183_2), (cT HB.out hw183_3), (cT HB.out hw183_4), (cT HB.out hw183_5), (cT HB.out hw183_6), (cT HB.out hw183_7), (cT HB.out hw184_0), (cT HB.out hw184_1), (cT HB.out hw184_2), (cT HB.out hw184_3), (cT HB.out hw184_4), (cT HB.out hw184_5), (cT HB.out hw184_6), (cT HB.out hw184_7), (cT HB.out hw185_0), (cT HB.out hw185_1), (cT HB.out hw185_2), (cT HB.out hw185_3), (cT HB.out hw185_4), (cT HB.out hw185_5), (cT HB.out hw185_6), (cT HB.out hw185_7), (cT HB.out hw186_0), (cT HB.out hw186_1), (cT HB.out hw186_2), (cT HB.out hw186_3), (cT HB.out hw186_4), (cT HB.out hw186_5), (cT HB.out hw186_6), (cT HB.out hw186_7), (cT HB.out hw187_0), (cT HB.out hw187_1), (cT HB.out hw187_2), (cT HB.out hw187_3), (cT HB.out hw187_4), (cT HB.out hw187_5), (cT HB.out hw187_6), (cT HB.out hw187_7)⟩ (fun hHeld => ?_); refine with_tabW mortmainref06_Same.tab6 mortmainref06_Same.bits6 (fun HT_ HW_ => ?_)
           generalize wr.drew = w27 at BK180 BK181 HB HR182_7 HR183_7 HR184_7 HR185_7 HR186_7 HR187_7 hx182_0 hx182_1 hx182_2 hx182_3 hx182_4 hx182_5 hx182_6 hx182_7 hx183_0 hx183_1 hx183_2 hx183_3 hx183_4 hx183_5 hx183_6 hx183_7 hx184_0 hx184_1 hx184_2 hx184_3 hx184_4 hx184_5 hx184_6 hx184_7 hx185_0 hx185_1 hx185_2 hx185_3 hx185_4 hx185_5 hx185_6 hx185_7 hx186_0 hx186_1 hx186_2 hx186_3 hx186_4 hx186_5 hx186_6 hx186_7 hx187_0 hx187_1 hx187_2 hx187_3 hx187_4 hx187_5 hx187_6 hx187_7 hHeld ⊢
           refine pure_ (i := 0) (N := some 34) (v := ?_) (a' := ?_) (bA 44 1) rfl rfl (an_ HT_.out) (fun _ _ _ h => h) (Or.inl ⟨by rfl, ?_⟩) ?_ ?_
           rotate_left
           ·intro w'
            go_simp
            with_reducible rfl
           rotate_left
           ·simp only [Act.put, q1, q2, q3, i64_w, i32_w]
            rfl
           refine pure_ (i := 2) (N := some 36) (v := ?_) (a' := ?_) (bA 44 5) rfl rfl (an_ HT_.out) (fun _ _ _ h => h) (Or.inl ⟨by rfl, ?_⟩) ?_ ?_
           rotate_left
           ·intro w'
            go_simp
            with_reducible rfl
           rotate_left
           ·simp only [Act.put, q1, q2, q3, i64_w, i32_w]
            rfl
           refine pure_ (i := 6) (N := some 40) (v := ?_) (a' := ?_) (bA 44 69) rfl rfl (an_ HT_.out) (fun _ _ _ h => h) (Or.inl ⟨by rfl, ?_⟩) ?_ ?_
           rotate_left
           ·intro w'
            go_simp
            with_reducible rfl
           rotate_left
           ·simp only [Act.put, q1, q2, q3, i64_w, i32_w]
            rfl
           refine pure_ (i := 8) (N := some 42) (v := ?_) (a' := ?_) (bA 44 325) rfl rfl (an_ HT_.out) (fun _ _ _ h => h) (Or.inl ⟨by rfl, ?_⟩) ?_ ?_
           rotate_left
           ·intro w'
            go_simp
            with_reducible rfl
           rotate_left
           ·simp only [Act.put, q1, q2, q3, i64_w, i32_w]
            rfl
           refine take_ (i := 1) (N := some 35) (v := ?_) (a' := ?_) (bA 44 327) rfl rfl (tw_ HT_.out HW_.out) (fun _ _ _ h => h) (Or.inl ⟨by rfl, ?_⟩) hHeld ?_ ?_
           rotate_left
           ·rintro w' ⟨s0, s1, s2, s3, s4, s5, s6, s7, s8, s9, s10, s11, s12, s13, s14, s15, s16, s17, s18, s19, s20, s21, s22, s23, s24, s25, s26, s27, s28, s29, s30, s31, s32, s33, s34, s35, s36, s37, s38, s39, s40, s41, s42, s43, s44, s45, s46, s47, s48, s49, s50, s51, s52, s53⟩
            try simp only [Int.toNat_natCast] at s0 s1 s2 s3 s4 s5 s6 s7 s8 s9 s10 s11 s12 s13 s14 s15 s16 s17 s18 s19 s20 s21 s22 s23 s24 s25 s26 s27 s28 s29 s30 s31 s32 s33 s34 s35 s36 s37 s38 s39 s40 s41 s42 s43 s44 s45 s46 s47 s48 s49 s50 s51 s52 s53
            go_simp
            with_reducible rfl
           rotate_left
           ·simp only [Act.put, q1, q2, q3, i64_w, i32_w]
            rfl
           refine pure_ (i := 3) (N := some 37) (v := ?_) (a' := ?_) (bA 44 335) rfl rfl (an_ HT_.out) (fun _ _ _ h => h) (Or.inl ⟨by rfl, ?_⟩) ?_ ?_
           rotate_left
           ·intro w'
            go_simp
            with_reducible rfl
           rotate_left
           ·simp only [Act.put, q1, q2, q3, i64_w, i32_w]
            rfl
           refine pure_ (i := 4) (N := some 38) (v := ?_) (a' := ?_) (bA 44 351) rfl rfl (an_ HT_.out) (fun _ _ _ h => h) (Or.inl ⟨by rfl, ?_⟩) ?_ ?_
           rotate_left
           ·intro w'
            go_simp
            with_reducible rfl
           rotate_left
           ·simp only [Act.put, q1, q2, q3, i64_w, i32_w]
            rfl
           refine take_ (i := 5) (N := some 39) (v := ?_) (a' := ?_) (bA 44 383) rfl rfl (tw_ HT_.out HW_.out) (fun _ _ _ h => h) (Or.inl ⟨by rfl, ?_⟩) hHeld ?_ ?_
           rotate_left
           ·rintro w' ⟨s0, s1, s2, s3, s4, s5, s6, s7, s8, s9, s10, s11, s12, s13, s14, s15, s16, s17, s18, s19, s20, s21, s22, s23, s24, s25, s26, s27, s28, s29, s30, s31, s32, s33, s34, s35, s36, s37, s38, s39, s40, s41, s42, s43, s44, s45, s46, s47, s48, s49, s50, s51, s52, s53⟩
            try simp only [Int.toNat_natCast] at s0 s1 s2 s3 s4 s5 s6 s7 s8 s9 s10 s11 s12 s13 s14 s15 s16 s17 s18 s19 s20 s21 s22 s23 s24 s25 s26 s27 s28 s29 s30 s31 s32 s33 s34 s35 s36 s37 s38 s39 s40 s41 s42 s43 s44 s45 s46 s47 s48 s49 s50 s51 s52 s53
            go_simp
            with_reducible rfl
           rotate_left
           ·simp only [Act.put, q1, q2, q3, i64_w, i32_w]
            rfl
           refine take_ (i := 7) (N := some 41) (v := ?_) (a' := ?_) (bA 44 511) rfl rfl (tw_ HT_.out HW_.out) (fun _ _ _ h => h) (Or.inl ⟨by rfl, ?_⟩) hHeld ?_ ?_
           rotate_left
           ·rintro w' ⟨s0, s1, s2, s3, s4, s5, s6, s7, s8, s9, s10, s11, s12, s13, s14, s15, s16, s17, s18, s19, s20, s21, s22, s23, s24, s25, s26, s27, s28, s29, s30, s31, s32, s33, s34, s35, s36, s37, s38, s39, s40, s41, s42, s43, s44, s45, s46, s47, s48, s49, s50, s51, s52, s53⟩
            try simp only [Int.toNat_natCast] at s0 s1 s2 s3 s4 s5 s6 s7 s8 s9 s10 s11 s12 s13 s14 s15 s16 s17 s18 s19 s20 s21 s22 s23 s24 s25 s26 s27 s28 s29 s30 s31 s32 s33 s34 s35 s36 s37 s38 s39 s40 s41 s42 s43 s44 s45 s46 s47 s48 s49 s50 s51 s52 s53
            go_simp
            with_reducible rfl
           rotate_left
           ·simp only [Act.put, q1, q2, q3, i64_w, i32_w]
            rfl
           refine pure_ (i := 9) (N := some 43) (v := ?_) (a' := ?_) (bA 44 1023) rfl rfl (an_ HT_.out) (fun _ _ _ h => h) (Or.inl ⟨by rfl, ?_⟩) ?_ ?_
           rotate_left
           ·intro w'
            go_simp
            with_reducible rfl
           rotate_left
           ·simp only [Act.put, q1, q2, q3, i64_w, i32_w]
            rfl
           refine pure_ (i := 10) (N := some 44) (v := ?_) (a' := ?_) (bA 44 2047) rfl rfl (an_ HT_.out) (fun _ _ _ h => h) (Or.inl ⟨by rfl, ?_⟩) ?_ ?_
           rotate_left
           ·intro w'
            go_simp
            with_reducible rfl
           rotate_left
           ·simp only [Act.put, q1, q2, q3, i64_w, i32_w]
            rfl
           refine take_ (i := 11) (N := some 45) (v := ?_) (a' := ?_) (bA 44 4095) rfl rfl (tw_ HT_.out HW_.out) (fun _ _ _ h => h) (Or.inl ⟨by rfl, ?_⟩) hHeld ?_ ?_
           rotate_left
           ·rintro w' ⟨s0, s1, s2, s3, s4, s5, s6, s7, s8, s9, s10, s11, s12, s13, s14, s15, s16, s17, s18, s19, s20, s21, s22, s23, s24, s25, s26, s27, s28, s29, s30, s31, s32, s33, s34, s35, s36, s37, s38, s39, s40, s41, s42, s43, s44, s45, s46, s47, s48, s49, s50, s51, s52, s53⟩
            try simp only [Int.toNat_natCast] at s0 s1 s2 s3 s4 s5 s6 s7 s8 s9 s10 s11 s12 s13 s14 s15 s16 s17 s18 s19 s20 s21 s22 s23 s24 s25 s26 s27 s28 s29 s30 s31 s32 s33 s34 s35 s36 s37 s38 s39 s40 s41 s42 s43 s44 s45 s46 s47 s48 s49 s50 s51 s52 s53
            go_simp
            with_reducible rfl
           rotate_left
           ·simp only [Act.put, q1, q2, q3, i64_w, i32_w]
            rfl
           refine pure_ (i := 12) (N := some 46) (v := ?_) (a' := ?_) (bA 44 8191) rfl rfl (an_ HT_.out) (fun _ _ _ h => h) (Or.inl ⟨by rfl, ?_⟩) ?_ ?_
           rotate_left
           ·intro w'
            go_simp
            with_reducible rfl
           rotate_left
           ·simp only [Act.put, q1, q2, q3, i64_w, i32_w]
            rfl
           refine pure_ (i := 13) (N := some 47) (v := ?_) (a' := ?_) (bA 44 16383) rfl rfl (an_ HT_.out) (fun _ _ _ h => h) (Or.inl ⟨by rfl, ?_⟩) ?_ ?_
           rotate_left
           ·intro w'
            go_simp
            with_reducible rfl
           rotate_left
           ·simp only [Act.put, q1, q2, q3, i64_w, i32_w]
            rfl
           refine pure_ (i := 14) (N := some 48) (v := ?_) (a' := ?_) (bA 44 32767) rfl rfl (an_ HT_.out) (fun _ _ _ h => h) (Or.inl ⟨by rfl, ?_⟩) ?_ ?_
           rotate_left
           ·intro w'
            go_simp
            with_reducible rfl
           rotate_left
           ·simp only [Act.put, q1, q2, q3, i64_w, i32_w]
            rfl
           refine pure_ (i := 16) (N := some 50) (v := ?_) (a' := ?_) (bA 44 98303) rfl rfl (an_ HT_.out) (fun _ _ _ h => h) (Or.inl ⟨by rfl, ?_⟩) ?_ ?_
           rotate_left
           ·intro w'
            go_simp
            with_reducible rfl
           rotate_left
           ·simp only [Act.put, q1, q2, q3, i64_w, i32_w]
            rfl
           refine pure_ (i := 20) (N := some 54) (v := ?_) (a' := ?_) (bA 44 1146879) rfl rfl (an_ HT_.out) (fun _ _ _ h => h) (Or.inl ⟨by rfl, ?_⟩) ?_ ?_
           rotate_left
           ·intro w'
            go_simp
            with_reducible rfl
           rotate_left
           ·simp only [Act.put, q1, q2, q3, i64_w, i32_w]
            rfl
           refine pure_ (i := 22) (N := some 56) (v := ?_) (a' := ?_) (bA 44 5341183) rfl rfl (an_ HT_.out) (fun _ _ _ h => h) (Or.inl ⟨by rfl, ?_⟩) ?_ ?_
           rotate_left
           ·intro w'
            go_simp
            with_reducible rfl
           rotate_left
           ·simp only [Act.put, q1, q2, q3, i64_w, i32_w]
            rfl
           refine take_ (i := 15) (N := some 49) (v := ?_) (a' := ?_) (bA 44 5373951) rfl rfl (tw_ HT_.out HW_.out) (fun _ _ _ h => h) (Or.inl ⟨by rfl, ?_⟩) hHeld ?_ ?_
           rotate_left
           ·rintro w' ⟨s0, s1, s2, s3, s4, s5, s6, s7, s8, s9, s10, s11, s12, s13, s14, s15, s16, s17, s18, s19, s20, s21, s22, s23, s24, s25, s26, s27, s28, s29, s30, s31, s32, s33, s34, s35, s36, s37, s38, s39, s40, s41, s42, s43, s44, s45, s46, s47, s48, s49, s50, s51, s52, s53⟩
            try simp only [Int.toNat_natCast] at s0 s1 s2 s3 s4 s5 s6 s7 s8 s9 s10 s11 s12 s13 s14 s15 s16 s17 s18 s19 s20 s21 s22 s23 s24 s25 s26 s27 s28 s29 s30 s31 s32 s33 s34 s35 s36 s37 s38 s39 s40 s41 s42 s43 s44 s45 s46 s47 s48 s49 s50 s51 s52 s53
            go_simp
            with_reducible rfl
           rotate_left
           ·simp only [Act.put, q1, q2, q3, i64_w, i32_w]
            rfl
           refine pure_ (i := 17) (N := some 51) (v := ?_) (a' := ?_) (bA 44 5505023) rfl rfl (an_ HT_.out) (fun _ _ _ h => h) (Or.inl ⟨by rfl, ?_⟩) ?_ ?_
           rotate_left
           ·intro w'
            go_simp
            with_reducible rfl
           rotate_left
           ·simp only [Act.put, q1, q2, q3, i64_w, i32_w]
            rfl
           refine pure_ (i := 18) (N := some 52) (v := ?_) (a' := ?_) (bA 44 5767167) rfl rfl (an_ HT_.out) (fun _ _ _ h => h) (Or.inl ⟨by rfl, ?_⟩) ?_ ?_
           rotate_left
           ·intro w'
            go_simp
            with_reducible rfl
           rotate_left
           ·simp only [Act.put, q1, q2, q3, i64_w, i32_w]
            rfl
           refine take_ (i := 19) (N := some 53) (v := ?_) (a' := ?_) (bA 44 6291455) rfl rfl (tw_ HT_.out HW_.out) (fun _ _ _ h => h) (Or.inl ⟨by rfl, ?_⟩) hHeld ?_ ?_
           rotate_left
           ·rintro w' ⟨s0, s1, s2, s3, s4, s5, s6, s7, s8, s9, s10, s11, s12, s13, s14, s15, s16, s17, s18, s19, s20, s21, s22, s23, s24, s25, s26, s27, s28, s29, s30, s31, s32, s33, s34, s35, s36, s37, s38, s39, s40, s41, s42, s43, s44, s45, s46, s47, s48, s49, s50, s51, s52, s53⟩
            try simp only [Int.toNat_natCast] at s0 s1 s2 s3 s4 s5 s6 s7 s8 s9 s10 s11 s12 s13 s14 s15 s16 s17 s18 s19 s20 s21 s22 s23 s24 s25 s26 s27 s28 s29 s30 s31 s32 s33 s34 s35 s36 s37 s38 s39 s40 s41 s42 s43 s44 s45 s46 s47 s48 s49 s50 s51 s52 s53
            go_simp
            with_reducible rfl
           rotate_left
           ·simp only [Act.put, q1, q2, q3, i64_w, i32_w]
            rfl
           refine take_ (i := 21) (N := some 55) (v := ?_) (a' := ?_) (bA 44 8388607) rfl rfl (tw_ HT_.out HW_.out) (fun _ _ _ h => h) (Or.inl ⟨by rfl, ?_⟩) hHeld ?_ ?_
           rotate_left
           ·rintro w' ⟨s0, s1, s2, s3, s4, s5, s6, s7, s8, s9, s10, s11, s12, s13, s14, s15, s16, s17, s18, s19, s20, s21, s22, s23, s24, s25, s26, s27, s28, s29, s30, s31, s32, s33, s34, s35, s36, s37, s38, s39, s40, s41, s42, s43, s44, s45, s46, s47, s48, s49, s50, s51, s52, s53⟩
            try simp only [Int.toNat_natCast] at s0 s1 s2 s3 s4 s5 s6 s7 s8 s9 s10 s11 s12 s13 s14 s15 s16 s17 s18 s19 s20 s21 s22 s23 s24 s25 s26 s27 s28 s29 s30 s31 s32 s33 s34 s35 s36 s37 s38 s39 s40 s41 s42 s43 s44 s45 s46 s47 s48 s49 s50 s51 s52 s53
            go_simp
            with_reducible rfl
           rotate_left
           ·simp only [Act.put, q1, q2, q3, i64_w, i32_w]
            rfl
           refine pure_ (i := 23) (N := some 57) (v := ?_) (a' := ?_) (bA 44 16777215) rfl rfl (an_ HT_.out) (fun _ _ _ h => h) (Or.inl ⟨by rfl, ?_⟩) ?_ ?_
           rotate_left
           ·intro w'
            go_simp
            with_reducible rfl
           rotate_left
           ·simp only [Act.put, q1, q2, q3, i64_w, i32_w]
            rfl
           refine pure_ (i := 24) (N := some 58) (v := ?_) (a' := ?_) (bA 44 33554431) rfl rfl (an_ HT_.out) (fun _ _ _ h => h) (Or.inl ⟨by rfl, ?_⟩) ?_ ?_
           rotate_left
           ·intro w'
            go_simp
            with_reducible rfl
           rotate_left
           ·simp only [Act.put, q1, q2, q3, i64_w, i32_w]
            rfl
           refine take_ (i := 25) (N := some 59) (v := ?_) (a' := ?_) (bA 44 67108863) rfl rfl (tw_ HT_.out HW_.out) (fun _ _ _ h => h) (Or.inl ⟨by rfl, ?_⟩) hHeld ?_ ?_
           rotate_left
           ·rintro w' ⟨s0, s1, s2, s3, s4, s5, s6, s7, s8, s9, s10, s11, s12, s13, s14, s15, s16, s17, s18, s19, s20, s21, s22, s23, s24, s25, s26, s27, s28, s29, s30, s31, s32, s33, s34, s35, s36, s37, s38, s39, s40, s41, s42, s43, s44, s45, s46, s47, s48, s49, s50, s51, s52, s53⟩
            try simp only [Int.toNat_natCast] at s0 s1 s2 s3 s4 s5 s6 s7 s8 s9 s10 s11 s12 s13 s14 s15 s16 s17 s18 s19 s20 s21 s22 s23 s24 s25 s26 s27 s28 s29 s30 s31 s32 s33 s34 s35 s36 s37 s38 s39 s40 s41 s42 s43 s44 s45 s46 s47 s48 s49 s50 s51 s52 s53
            go_simp
            with_reducible rfl
           rotate_left
           ·simp only [Act.put, q1, q2, q3, i64_w, i32_w]
            rfl
           refine pure_ (i := 26) (N := some 60) (v := ?_) (a' := ?_) (bA 44 134217727) rfl rfl (an_ HT_.out) (fun _ _ _ h => h) (Or.inl ⟨by rfl, ?_⟩) ?_ ?_
           rotate_left
           ·intro w'
            go_simp
            with_reducible rfl
           rotate_left
           ·simp only [Act.put, q1, q2, q3, i64_w, i32_w]
            rfl
           refine pure_ (i := 27) (N := some 61) (v := ?_) (a' := ?_) (bA 44 268435455) rfl rfl (an_ HT_.out) (fun _ _ _ h => h) (Or.inl ⟨by rfl, ?_⟩) ?_ ?_
           rotate_left
           ·intro w'
            go_simp
            with_reducible rfl
           rotate_left
           ·simp only [Act.put, q1, q2, q3, i64_w, i32_w]
            rfl
           refine pure_ (i := 28) (N := some 62) (v := ?_) (a' := ?_) (bA 44 536870911) rfl rfl (an_ HT_.out) (fun _ _ _ h => h) (Or.inl ⟨by rfl, ?_⟩) ?_ ?_
           rotate_left
           ·intro w'
            go_simp
            with_reducible rfl
           rotate_left
           ·simp only [Act.put, q1, q2, q3, i64_w, i32_w]
            rfl
           refine pure_ (i := 29) (N := some 63) (v := ?_) (a' := ?_) (bA 44 1073741823) rfl rfl (an_ HT_.out) (fun _ _ _ h => h) (Or.inl ⟨by rfl, ?_⟩) ?_ ?_
           rotate_left
           ·intro w'
            go_simp
            with_reducible rfl
           rotate_left
           ·simp only [Act.put, q1, q2, q3, i64_w, i32_w]
            rfl
           refine pure_ (i := 31) (N := some 65) (v := ?_) (a' := ?_) (bA 44 3221225471) rfl rfl (an_ HT_.out) (fun _ _ _ h => h) (Or.inl ⟨by rfl, ?_⟩) ?_ ?_
           rotate_left
           ·intro w'
            go_simp
            with_reducible rfl
           rotate_left
           ·simp only [Act.put, q1, q2, q3, i64_w, i32_w]
            rfl
           refine pure_ (i := 35) (N := some 69) (v := ?_) (a' := ?_) (bA 44 37580963839) rfl rfl (an_ HT_.out) (fun _ _ _ h => h) (Or.inl ⟨by rfl, ?_⟩) ?_ ?_
           rotate_left
           ·intro w'
            go_simp
            with_reducible rfl
           rotate_left
           ·simp only [Act.put, q1, q2, q3, i64_w, i32_w]
            rfl
           refine pure_ (i := 37) (N := some 71) (v := ?_) (a' := ?_) (bA 44 175019917311) rfl rfl (an_ HT_.out) (fun _ _ _ h => h) (Or.inl ⟨by rfl, ?_⟩) ?_ ?_
           rotate_left
           ·intro w'
            go_simp
            with_reducible rfl
           rotate_left
           ·simp only [Act.put, q1, q2, q3, i64_w, i32_w]
            rfl
           refine take_ (i := 30) (N := some 64) (v := ?_) (a' := ?_) (bA 44 176093659135) rfl rfl (tw_ HT_.out HW_.out) (fun _ _ _ h => h) (Or.inl ⟨by rfl, ?_⟩) hHeld ?_ ?_
           rotate_left
           ·rintro w' ⟨s0, s1, s2, s3, s4, s5, s6, s7, s8, s9, s10, s11, s12, s13, s14, s15, s16, s17, s18, s19, s20, s21, s22, s23, s24, s25, s26, s27, s28, s29, s30, s31, s32, s33, s34, s35, s36, s37, s38, s39, s40, s41, s42, s43, s44, s45, s46, s47, s48, s49, s50, s51, s52, s53⟩
            try simp only [Int.toNat_natCast] at s0 s1 s2 s3 s4 s5 s6 s7 s8 s9 s10 s11 s12 s13 s14 s15 s16 s17 s18 s19 s20 s21 s22 s23 s24 s25 s26 s27 s28 s29 s30 s31 s32 s33 s34 s35 s36 s37 s38 s39 s40 s41 s42 s43 s44 s45 s46 s47 s48 s49 s50 s51 s52 s53
            go_simp
            with_reducible rfl
           rotate_left
           ·simp only [Act.put, q1, q2, q3, i64_w, i32_w]
            rfl
           refine pure_ (i := 32) (N := some 66) (v := ?_) (a' := ?_) (bA 44 180388626431) rfl rfl (an_ HT_.out) (fun _ _ _ h => h) (Or.inl ⟨by rfl, ?_⟩) ?_ ?_
           rotate_left
           ·intro w'
            go_simp
            with_reducible rfl
           rotate_left
           ·simp only [Act.put, q1, q2, q3, i64_w, i32_w]
            rfl
           refine pure_ (i := 33) (N := some 67) (v := ?_) (a' := ?_) (bA 44 188978561023) rfl rfl (an_ HT_.out) (fun _ _ _ h => h) (Or.inl ⟨by rfl, ?_⟩) ?_ ?_
           rotate_left
           ·intro w'
            go_simp
            with_reducible rfl
           rotate_left
           ·simp only [Act.put, q1, q2, q3, i64_w, i32_w]
            rfl
           refine take_ (i := 34) (N := some 68) (v := ?_) (a' := ?_) (bA 44 206158430207) rfl rfl (tw_ HT_.out HW_.out) (fun _ _ _ h => h) (Or.inl ⟨by rfl, ?_⟩) hHeld ?_ ?_
           rotate_left
           ·rintro w' ⟨s0, s1, s2, s3, s4, s5, s6, s7, s8, s9, s10, s11, s12, s13, s14, s15, s16, s17, s18, s19, s20, s21, s22, s23, s24, s25, s26, s27, s28, s29, s30, s31, s32, s33, s34, s35, s36, s37, s38, s39, s40, s41, s42, s43, s44, s45, s46, s47, s48, s49, s50, s51, s52, s53⟩
            try simp only [Int.toNat_natCast] at s0 s1 s2 s3 s4 s5 s6 s7 s8 s9 s10 s11 s12 s13 s14 s15 s16 s17 s18 s19 s20 s21 s22 s23 s24 s25 s26 s27 s28 s29 s30 s31 s32 s33 s34 s35 s36 s37 s38 s39 s40 s41 s42 s43 s44 s45 s46 s47 s48 s49 s50 s51 s52 s53
            go_simp
            with_reducible rfl
           rotate_left
           ·simp only [Act.put, q1, q2, q3, i64_w, i32_w]
            rfl
           refine take_ (i := 36) (N := some 70) (v := ?_) (a' := ?_) (bA 44 274877906943) rfl rfl (tw_ HT_.out HW_.out) (fun _ _ _ h => h) (Or.inl ⟨by rfl, ?_⟩) hHeld ?_ ?_
           rotate_left
           ·rintro w' ⟨s0, s1, s2, s3, s4, s5, s6, s7, s8, s9, s10, s11, s12, s13, s14, s15, s16, s17, s18, s19, s20, s21, s22, s23, s24, s25, s26, s27, s28, s29, s30, s31, s32, s33, s34, s35, s36, s37, s38, s39, s40, s41, s42, s43, s44, s45, s46, s47, s48, s49, s50, s51, s52, s53⟩
            try simp only [Int.toNat_natCast] at s0 s1 s2 s3 s4 s5 s6 s7 s8 s9 s10 s11 s12 s13 s14 s15 s16 s17 s18 s19 s20 s21 s22 s23 s24 s25 s26 s27 s28 s29 s30 s31 s32 s33 s34 s35 s36 s37 s38 s39 s40 s41 s42 s43 s44 s45 s46 s47 s48 s49 s50 s51 s52 s53
            go_simp
            with_reducible rfl
           rotate_left
           ·simp only [Act.put, q1, q2, q3, i64_w, i32_w]
            rfl
           refine pure_ (i := 38) (N := some 72) (v := ?_) (a' := ?_) (bA 44 549755813887) rfl rfl (an_ HT_.out) (fun _ _ _ h => h) (Or.inl ⟨by rfl, ?_⟩) ?_ ?_
           rotate_left
           ·intro w'
            go_simp
            with_reducible rfl
           rotate_left
           ·simp only [Act.put, q1, q2, q3, i64_w, i32_w]
            rfl
           refine pure_ (i := 39) (N := some 73) (v := ?_) (a' := ?_) (bA 44 1099511627775) rfl rfl (an_ HT_.out) (fun _ _ _ h => h) (Or.inl ⟨by rfl, ?_⟩) ?_ ?_
           rotate_left
           ·intro w'
            go_simp
            with_reducible rfl
           rotate_left
           ·simp only [Act.put, q1, q2, q3, i64_w, i32_w]
            rfl
           refine take_ (i := 40) (N := some 74) (v := ?_) (a' := ?_) (bA 44 2199023255551) rfl rfl (tw_ HT_.out HW_.out) (fun _ _ _ h => h) (Or.inl ⟨by rfl, ?_⟩) hHeld ?_ ?_
           rotate_left
           ·rintro w' ⟨s0, s1, s2, s3, s4, s5, s6, s7, s8, s9, s10, s11, s12, s13, s14, s15, s16, s17, s18, s19, s20, s21, s22, s23, s24, s25, s26, s27, s28, s29, s30, s31, s32, s33, s34, s35, s36, s37, s38, s39, s40, s41, s42, s43, s44, s45, s46, s47, s48, s49, s50, s51, s52, s53⟩
            try simp only [Int.toNat_natCast] at s0 s1 s2 s3 s4 s5 s6 s7 s8 s9 s10 s11 s12 s13 s14 s15 s16 s17 s18 s19 s20 s21 s22 s23 s24 s25 s26 s27 s28 s29 s30 s31 s32 s33 s34 s35 s36 s37 s38 s39 s40 s41 s42 s43 s44 s45 s46 s47 s48 s49 s50 s51 s52 s53
            go_simp
            with_reducible rfl
           rotate_left
           ·simp only [Act.put, q1, q2, q3, i64_w, i32_w]
            rfl
           refine one_ (i := 41) (N := some 75) (bA 44 4398046511103) rfl rfl (one_of HT_.out (by kernel_rfl)) (by decide) (fun K hK => ?_)
           refine goes_ Try.func24 (by kernel_rfl) rfl #[.agg #[.int .i64 ((rd_T84 l0_0 x5_2).f2.f0), .int .i64 ((rd_T84 l0_0 x5_2).f2.f1), .int .i64 ((rd_T84 l0_0 x5_2).f2.f2), .int .i64 ((rd_T84 l0_0 x5_2).f2.f3), .bool ((rd_T84 l0_0 x5_2).f2.f4), .slice A182_7 ((rd_T84 l0_0 x5_2).f2.f5).length c182_7], .agg #[.int .i64 ((rd_T84 l1_0 x5_2).f2.f0), .int .i64 ((rd_T84 l1_0 x5_2).f2.f1), .int .i64 ((rd_T84 l1_0 x5_2).f2.f2), .int .i64 ((rd_T84 l1_0 x5_2).f2.f3), .bool ((rd_T84 l1_0 x5_2).f2.f4), .slice A183_7 ((rd_T84 l1_0 x5_2).f2.f5).length c183_7]] (by rfl) rfl rfl mT ?_
           with_reducible refine (mortmainref06_Alike.calls k2 ((rd_T84 l0_0 x5_2).f2.f0) ((rd_T84 l0_0 x5_2).f2.f1) ((rd_T84 l0_0 x5_2).f2.f2) ((rd_T84 l0_0 x5_2).f2.f3) ((rd_T84 l0_0 x5_2).f2.f4) _ _ ((rd_T84 l0_0 x5_2).f2.f5) ((rd_T84 l1_0 x5_2).f2.f0) ((rd_T84 l1_0 x5_2).f2.f1) ((rd_T84 l1_0 x5_2).f2.f2) ((rd_T84 l1_0 x5_2).f2.f3) ((rd_T84 l1_0 x5_2).f2.f4) _ _ ((rd_T84 l1_0 x5_2).f2.f5) t188 _ ?side1 ?side2 ?side3 ?side4 A23.out).mono ?_
           (case side1 => repeat (first | exact (Kd.C_below HR186_7.out HB.out) | (with_reducible refine Kd.C_alloc ?_ _) | (with_reducible refine Kd.C_drewN ?_ _) | (with_reducible refine Kd.C_drew ?_)))
           (case side2 => exact HC186_7.out)
           (case side3 => repeat (first | exact (Kd.C_below HR187_7.out HB.out) | (with_reducible refine Kd.C_alloc ?_ _) | (with_reducible refine Kd.C_drewN ?_ _) | (with_reducible refine Kd.C_drew ?_)))
           (case side4 => exact HC187_7.out)
           rintro e w28 ⟨rfl, hb⟩
           refine ⟨_, rfl, ?_⟩
           have n0_ := Aside0.mk (blk_below (g := gb180) (o := .cells #[.slice (some ad182) l0_0.length c0_0, .int .i64 a0_1, .int .i64 a0_2] 37 (0, 0)) (kT BK180.out) hb)
           have n1_ := Aside0.mk (blk_below (g := gb181) (o := .cells #[.slice (some ad183) l1_0.length c1_0, .int .i64 a1_1, .int .i64 a1_2] 37 (0, 0)) (kT BK181.out) hb)
           have n2_ := Aside0.mk (below_step (bH GE180.out GE181.out) hb)
           clear BK180
           clear BK181
           clear HB
           have BK180 := n0_
           have BK181 := n1_
           have HB := n2_
           clear n0_ n1_ n2_
           (try clear hb)
           (try clear hb2)
           (try clear hk)
           (try clear hi)
           refine hK.out _ _ ⟨(blk_cell BK180.out 0).trans rfl, (blk_cell BK180.out 1).trans rfl, (blk_cell BK180.out 2).trans rfl, (blk_cell BK181.out 0).trans rfl, (blk_cell BK181.out 1).trans rfl, (blk_cell BK181.out 2).trans rfl, (cT HB.out hw182_0), (cT HB.out hw182_1), (cT HB.out hw182_2), (cT HB.out hw182_3), (cT HB.out hw182_4), (cT HB.out hw182_5), (cT HB.out hw182_6), (cT HB.out hw182_7), (cT HB.out hw183_0), (cT HB.out hw183_1), (cT HB.out hw183_2), (cT HB.out hw183_3), (cT HB.out hw183_4), (cT HB.out hw183_5), (cT HB.out hw183_6), (cT HB.out hw183_7), (cT HB.out hw184_0), (cT HB.out hw184_1), (cT HB.out hw184_2), (cT HB.out hw184_3), (cT HB.out hw184_4), (cT HB.out hw184_5), (cT HB.out hw184_6), (cT HB.out hw184_7), (cT HB.out hw185_0), (cT HB.out hw185_1), (cT HB.out hw185_2), (cT HB.out hw185_3), (cT HB.out hw185_4), (cT HB.out hw185_5), (cT HB.out hw185_6), (cT HB.out hw185_7), (cT HB.out hw186_0), (cT HB.out hw186_1), (cT HB.out hw186_2), (cT HB.out hw186_3), (cT HB.out hw186_4), (cT HB.out hw186_5), (cT HB.out hw186_6), (cT HB.out hw186_7), (cT HB.out hw187_0), (cT HB.out hw187_1), (cT HB.out hw187_2), (cT HB.out hw187_3), (cT HB.out hw187_4), (cT HB.out hw187_5), (cT HB.out hw187_6), (cT HB.out hw187_7)⟩ (fun hHeld => ?_)
           clear hK K
           refine norm_ (a' := ?_) ?_ ?_
           rotate_left
           ·show Act.put _ (some 75) _ = _
            simp only [Act.put, q1, q2, q3, i64_w, i32_w]
            rfl
           have H := H'.out
           clear H'
           by_cases c24 : t188 = true
           ·subst c24
            have H1 : (mortmainref06_Same.l0 k2 (wrap64 (x5_2 + 1)) l0_0 a0_1 a0_2 l1_0 a1_1 a1_2) = some r := by rw [if_pos rfl] at H; exact H
            clear H
            have H := H1
            clear H1
            have H' := Aside0.mk H
            clear H
            refine pure_ (i := 42) (N := some 76) (v := ?_) (a' := ?_) (bA 44 8796093022207) rfl rfl (an_ HT_.out) (fun _ _ _ h => h) (Or.inl ⟨by rfl, ?_⟩) ?_ ?_
            rotate_left
            ·intro w'
             go_simp
             with_reducible rfl
            rotate_left
            ·simp only [Act.put, q1, q2, q3, i64_w, i32_w]
             rfl
            refine pure_ (i := 43) (N := some 77) (v := ?_) (a' := ?_) (bA 44 17592186044415) rfl rfl (an_ HT_.out) (fun _ _ _ h => h) (Or.inl ⟨by rfl, ?_⟩) ?_ ?_
            rotate_left
            ·intro w'
             go_simp
             with_reducible rfl
            rotate_left
            ·simp only [Act.put, q1, q2, q3, i64_w, i32_w]
             rfl
            refine done_ (done_of HT_.out (by kernel_rfl)) ?_
            try go_wp2
            go_roundg k2
            case measure => have := HJ2.out; have := HK2.out; omega
            case rel => exact ⟨(wrap64 (x5_2 + 1)), (by first | rfl | (simp; done) | (simp [*]; done)), H', ⟨by have := HJ2.out; have := HK2.out; omega⟩, ⟨by (with_reducible repeat (first | refine blk_drewN ?_ _ | refine blk_drew ?_ | refine blk_alloc ?_ _)); exact BK180.out⟩, ⟨by (with_reducible repeat (first | refine blk_drewN ?_ _ | refine blk_drew ?_ | refine blk_alloc ?_ _)); exact BK181.out⟩, ⟨by repeat (first | (with_reducible first | exact HB.out | apply below_alloc | apply pw_below_drewN | apply below_drew1 | refine below_set ?_ GE180.out | refine below_set ?_ GE181.out) | exact HB.out)⟩⟩
           ·replace c24 := Bool.eq_false_iff.mpr c24
            subst c24
            have H1 : (some false) = some r := by rw [if_neg (show ¬ (false = true) by decide)] at H; exact H
            clear H
            have H := H1
            clear H1
            obtain rfl := Option.some.inj H
            refine pure_ (i := 42) (N := some 76) (v := ?_) (a' := ?_) (bA 44 8796093022207) rfl rfl (an_ HT_.out) (fun _ _ _ h => h) (Or.inl ⟨by rfl, ?_⟩) ?_ ?_
            rotate_left
            ·intro w'
             go_simp
             with_reducible rfl
            rotate_left
            ·simp only [Act.put, q1, q2, q3, i64_w, i32_w]
             rfl
            refine pure_ (i := 43) (N := some 77) (v := ?_) (a' := ?_) (bA 44 17592186044415) rfl rfl (an_ HT_.out) (fun _ _ _ h => h) (Or.inl ⟨by rfl, ?_⟩) ?_ ?_
            rotate_left
            ·intro w'
             go_simp
             with_reducible rfl
            rotate_left
            ·simp only [Act.put, q1, q2, q3, i64_w, i32_w]
             rfl
            refine done_ (done_of HT_.out (by kernel_rfl)) ?_
            try go_wp2
            go_ret
            exact ⟨by first | rfl | (simp [errW_none, errW_some] <;> rfl) | (simp [*, errW_none, errW_some] <;> rfl), by repeat (first | (with_reducible first | exact HB.out | apply below_alloc | apply pw_below_drewN | apply below_drew1 | refine below_set ?_ GE180.out | refine below_set ?_ GE181.out) | exact HB.out)⟩
          ·rw [if_neg c22] at H
           have c22b0 : (((rd_T84 l0_0 x5_2).f1) == ((rd_T84 l1_0 x5_2).f1)) = false := beq_eq_false_iff_ne.mpr c22
           have c22b1 : (((rd_T84 l0_0 x5_2).f1) != ((rd_T84 l1_0 x5_2).f1)) = true := bne_iff_ne.mpr c22
           obtain rfl := Option.some.inj H
           have hnb33 := NB180_181.out
           have hnc33 := NB181_180.out
           have hcz34_0 : wr.cell? ⟨gb180, 0, none⟩ = some (.slice A0_0 l0_0.length c0_0) := (blk_cell BK180.out 0).trans rfl
           have hcz34_1 : wr.cell? ⟨gb180, 1, none⟩ = some (.int .i64 a0_1) := (blk_cell BK180.out 1).trans rfl
           have hcz34_2 : wr.cell? ⟨gb180, 2, none⟩ = some (.int .i64 a0_2) := (blk_cell BK180.out 2).trans rfl
           have hfz34_0 := blk_frozen BK180.out 0
           have hfz34_1 := blk_frozen BK180.out 1
           have hfz34_2 := blk_frozen BK180.out 2
           try go_wp2
           have n0_ := Aside0.mk (blk_drew BK180.out)
           have n1_ := Aside0.mk (blk_drew BK181.out)
           have n2_ := Aside0.mk (below_drew1 HB.out)
           clear BK180
           clear BK181
           clear HB
           have BK180 := n0_
           have BK181 := n1_
           have HB := n2_
           clear n0_ n1_ n2_
           have p182 : 0 ≤ (x5_2 : Int) := oT
           have q182 : x5_2 < (l0_0.length : Int) := oT
           obtain ⟨ad182, A182_7, c182_7, e182, hx182_0, hx182_1, hx182_2, hx182_3, hx182_4, hx182_5, hx182_6, hx182_7, hl182_7, hi182_7⟩ := at_T84 HR0_0.out x5_2 p182 q182
           have hw182_7 := hx182_7
           have hw182_6 := hx182_6
           have hw182_5 := hx182_5
           have hw182_4 := hx182_4
           have hw182_3 := hx182_3
           have hw182_2 := hx182_2
           have hw182_1 := hx182_1
           have hw182_0 := hx182_0
           cases e182
           replace hx182_0 := cT HB.out hx182_0
           replace hx182_1 := cT HB.out hx182_1
           replace hx182_2 := cT HB.out hx182_2
           replace hx182_3 := cT HB.out hx182_3
           replace hx182_4 := cT HB.out hx182_4
           replace hx182_5 := cT HB.out hx182_5
           replace hx182_6 := cT HB.out hx182_6
           replace hx182_7 := cT HB.out hx182_7
           have HR182_7 := Aside0.mk hi182_7
           have HC182_7 := Aside0.mk hl182_7
           clear hi182_7 hl182_7
           replace p182 := eq_true p182
           replace q182 := eq_true q182
           have p183 : 0 ≤ (x5_2 : Int) := oT
           have q183 : x5_2 < (l1_0.length : Int) := oT
           obtain ⟨ad183, A183_7, c183_7, e183, hx183_0, hx183_1, hx183_2, hx183_3, hx183_4, hx183_5, hx183_6, hx183_7, hl183_7, hi183_7⟩ := at_T84 HR1_0.out x5_2 p183 q183
           have hw183_7 := hx183_7
           have hw183_6 := hx183_6
           have hw183_5 := hx183_5
           have hw183_4 := hx183_4
           have hw183_3 := hx183_3
           have hw183_2 := hx183_2
           have hw183_1 := hx183_1
           have hw183_0 := hx183_0
           cases e183
           replace hx183_0 := cT HB.out hx183_0
           replace hx183_1 := cT HB.out hx183_1
           replace hx183_2 := cT HB.out hx183_2
           replace hx183_3 := cT HB.out hx183_3
           replace hx183_4 := cT HB.out hx183_4
           replace hx183_5 := cT HB.out hx183_5
           replace hx183_6 := cT HB.out hx183_6
           replace hx183_7 := cT HB.out hx183_7
           have HR183_7 := Aside0.mk hi183_7
           have HC183_7 := Aside0.mk hl183_7
           clear hi183_7 hl183_7
           replace p183 := eq_true p183
           replace q183 := eq_true q183
           have p184 : 0 ≤ (x5_2 : Int) := oT
           have q184 : x5_2 < (l0_0.length : Int) := oT
           obtain ⟨ad184, A184_7, c184_7, e184, hx184_0, hx184_1, hx184_2, hx184_3, hx184_4, hx184_5, hx184_6, hx184_7, hl184_7, hi184_7⟩ := at_T84 HR0_0.out x5_2 p184 q184
           have hw184_7 := hx184_7
           have hw184_6 := hx184_6
           have hw184_5 := hx184_5
           have hw184_4 := hx184_4
           have hw184_3 := hx184_3
           have hw184_2 := hx184_2
           have hw184_1 := hx184_1
           have hw184_0 := hx184_0
           obtain rfl : ad182 = ad184 := (by injection e184)
           replace hx184_0 := cT HB.out hx184_0
           replace hx184_1 := cT HB.out hx184_1
           replace hx184_2 := cT HB.out hx184_2
           replace hx184_3 := cT HB.out hx184_3
           replace hx184_4 := cT HB.out hx184_4
           replace hx184_5 := cT HB.out hx184_5
           replace hx184_6 := cT HB.out hx184_6
           replace hx184_7 := cT HB.out hx184_7
           have HR184_7 := Aside0.mk hi184_7
           have HC184_7 := Aside0.mk hl184_7
           clear hi184_7 hl184_7
           replace p184 := eq_true p184
           replace q184 := eq_true q184
           have ea_ := Option.some.inj (hx182_7.symm.trans hx184_7)
           injection ea_ with ea_ en_ ec_
           subst ea_
           subst ec_
           clear en_
           have p185 : 0 ≤ (x5_2 : Int) := oT
           have q185 : x5_2 < (l1_0.length : Int) := oT
           obtain ⟨ad185, A185_7, c185_7, e185, hx185_0, hx185_1, hx185_2, hx185_3, hx185_4, hx185_5, hx185_6, hx185_7, hl185_7, hi185_7⟩ := at_T84 HR1_0.out x5_2 p185 q185
           have hw185_7 := hx185_7
           have hw185_6 := hx185_6
           have hw185_5 := hx185_5
           have hw185_4 := hx185_4
           have hw185_3 := hx185_3
           have hw185_2 := hx185_2
           have hw185_1 := hx185_1
           have hw185_0 := hx185_0
           obtain rfl : ad183 = ad185 := (by injection e185)
           replace hx185_0 := cT HB.out hx185_0
           replace hx185_1 := cT HB.out hx185_1
           replace hx185_2 := cT HB.out hx185_2
           replace hx185_3 := cT HB.out hx185_3
           replace hx185_4 := cT HB.out hx185_4
           replace hx185_5 := cT HB.out hx185_5
           replace hx185_6 := cT HB.out hx185_6
           replace hx185_7 := cT HB.out hx185_7
           have HR185_7 := Aside0.mk hi185_7
           have HC185_7 := Aside0.mk hl185_7
           clear hi185_7 hl185_7
           replace p185 := eq_true p185
           replace q185 := eq_true q185
           have ea_ := Option.some.inj (hx183_7.symm.trans hx185_7)
           injection ea_ with ea_ en_ ec_
           subst ea_
           subst ec_
           clear en_
           refine start_ (n := 44) (S := fun w' => w'.cell? ⟨gb180, 0, none⟩ = some (.slice (some ad182) l0_0.length c0_0) ∧ w'.cell? ⟨gb180, 1, none⟩ = some (.int .i64 a0_1) ∧ w'.cell? ⟨gb180, 2, none⟩ = some (.int .i64 a0_2) ∧ w'.cell? ⟨gb181, 0, none⟩ = some (.slice (some ad183) l1_0.length c1_0) ∧ w'.cell? ⟨gb181, 1, none⟩ = some (.int .i64 a1_1) ∧ w'.cell? ⟨gb181, 2, none⟩ = some (.int .i64 a1_2) ∧ w'.cell? (ad182.add ((x5_2).toNat * 8)) = some (.int .i64 ((rd_T84 l0_0 x5_2).f0)) ∧ w'.cell? ⟨(ad182.add ((x5_2).toNat * 8)).block, (ad182.add ((x5_2).toNat * 8)).off + 1, none⟩ = some (.int .i64 ((rd_T84 l0_0 x5_2).f1)) ∧ w'.cell? ⟨(ad182.add ((x5_2).toNat * 8)).block, (ad182.add ((x5_2).toNat * 8)).off + 2, none⟩ = some (.int .i64 ((rd_T84 l0_0 x5_2).f2.f0)) ∧ w'.cell? ⟨(ad182.add ((x5_2).toNat * 8)).block, (ad182.add ((x5_2).toNat * 8)).off + 3, none⟩ = some (.int .i64 ((rd_T84 l0_0 x5_2).f2.f1)) ∧ w'.cell? ⟨(ad182.add ((x5_2).toNat * 8)).block, (ad182.add ((x5_2).toNat * 8)).off + 4, none⟩ = some (.int .i64 ((rd_T84 l0_0 x5_2).f2.f2)) ∧ w'.cell? ⟨(ad182.add ((x5_2).toNat * 8)).block, (ad182.add ((x5_2).toNat * 8)).off + 5, none⟩ = some (.int .i64 ((rd_T84 l0_0 x5_2).f2.f3)) ∧ w'.cell? ⟨(ad182.add ((x5_2).toNat * 8)).block, (ad182.add ((x5_2).toNat * 8)).off + 6, none⟩ = some (.bool ((rd_T84 l0_0 x5_2).f2.f4)) ∧ w'.cell? ⟨(ad182.add ((x5_2).toNat * 8)).block, (ad182.add ((x5_2).toNat * 8)).off + 7, none⟩ = some (.slice A182_7 ((rd_T84 l0_0 x5_2).f2.f5).length c182_7) ∧ w'.cell? (ad183.add ((x5_2).toNat * 8)) = some (.int .i64 ((rd_T84 l1_0 x5_2).f0)) ∧ w'.cell? ⟨(ad183.add ((x5_2).toNat * 8)).block, (ad183.add ((x5_2).toNat * 8)).off + 1, none⟩ = some (.int .i64 ((rd_T84 l1_0 x5_2).f1)) ∧ w'.cell? ⟨(ad183.add ((x5_2).toNat * 8)).block, (ad183.add ((x5_2).toNat * 8)).off + 2, none⟩ = some (.int .i64 ((rd_T84 l1_0 x5_2).f2.f0)) ∧ w'.cell? ⟨(ad183.add ((x5_2).toNat * 8)).block, (ad183.add ((x5_2).toNat * 8)).off + 3, none⟩ = some (.int .i64 ((rd_T84 l1_0 x5_2).f2.f1)) ∧ w'.cell? ⟨(ad183.add ((x5_2).toNat * 8)).block, (ad183.add ((x5_2).toNat * 8)).off + 4, none⟩ = some (.int .i64 ((rd_T84 l1_0 x5_2).f2.f2)) ∧ w'.cell? ⟨(ad183.add ((x5_2).toNat * 8)).block, (ad183.add ((x5_2).toNat * 8)).off + 5, none⟩ = some (.int .i64 ((rd_T84 l1_0 x5_2).f2.f3)) ∧ w'.cell? ⟨(ad183.add ((x5_2).toNat * 8)).block, (ad183.add ((x5_2).toNat * 8)).off + 6, none⟩ = some (.bool ((rd_T84 l1_0 x5_2).f2.f4)) ∧ w'.cell? ⟨(ad183.add ((x5_2).toNat * 8)).block, (ad183.add ((x5_2).toNat * 8)).off + 7, none⟩ = some (.slice A183_7 ((rd_T84 l1_0 x5_2).f2.f5).length c183_7) ∧ w'.cell? (ad182.add ((x5_2).toNat * 8)) = some (.int .i64 ((rd_T84 l0_0 x5_2).f0)) ∧ w'.cell? ⟨(ad182.add ((x5_2).toNat * 8)).block, (ad182.add ((x5_2).toNat * 8)).off + 1, none⟩ = some (.int .i64 ((rd_T84 l0_0 x5_2).f1)) ∧ w'.cell? ⟨(ad182.add ((x5_2).toNat * 8)).block, (ad182.add ((x5_2).toNat * 8)).off + 2, none⟩ = some (.int .i64 ((rd_T84 l0_0 x5_2).f2.f0)) ∧ w'.cell? ⟨(ad182.add ((x5_2).toNat * 8)).block, (ad182.add ((x5_2).toNat * 8)).off + 3, none⟩ = some (.int .i64 ((rd_T84 l0_0 x5_2).f2.f1)) ∧ w'.cell? ⟨(ad182.add ((x5_2).toNat * 8)).block, (ad182.add ((x5_2).toNat * 8)).off + 4, none⟩ = some (.int .i64 ((rd_T84 l0_0 x5_2).f2.f2)) ∧ w'.cell? ⟨(ad182.add ((x5_2).toNat * 8)).block, (ad182.add ((x5_2).toNat * 8)).off + 5, none⟩ = some (.int .i64 ((rd_T84 l0_0 x5_2).f2.f3)) ∧ w'.cell? ⟨(ad182.add ((x5_2).toNat * 8)).block, (ad182.add ((x5_2).toNat * 8)).off + 6, none⟩ = some (.bool ((rd_T84 l0_0 x5_2).f2.f4)) ∧ w'.cell? ⟨(ad182.add ((x5_2).toNat * 8)).block, (ad182.add ((x5_2).toNat * 8)).off + 7, none⟩ = some (.slice A182_7 ((rd_T84 l0_0 x5_2).f2.f5).length c182_7) ∧ w'.cell? (ad183.add ((x5_2).toNat * 8)) = some (.int .i64 ((rd_T84 l1_0 x5_2).f0)) ∧ w'.cell? ⟨(ad183.add ((x5_2).toNat * 8)).block, (ad183.add ((x5_2).toNat * 8)).off + 1, none⟩ = some (.int .i64 ((rd_T84 l1_0 x5_2).f1)) ∧ w'.cell? ⟨(ad183.add ((x5_2).toNat * 8)).block, (ad183.add ((x5_2).toNat * 8)).off + 2, none⟩ = some (.int .i64 ((rd_T84 l1_0 x5_2).f2.f0)) ∧ w'.cell? ⟨(ad183.add ((x5_2).toNat * 8)).block, (ad183.add ((x5_2).toNat * 8)).off + 3, none⟩ = some (.int .i64 ((rd_T84 l1_0 x5_2).f2.f1)) ∧ w'.cell? ⟨(ad183.add ((x5_2).toNat * 8)).block, (ad183.add ((x5_2).toNat * 8)).off + 4, none⟩ = some (.int .i64 ((rd_T84 l1_0 x5_2).f2.f2)) ∧ w'.cell? ⟨(ad183.add ((x5_2).toNat * 8)).block, (ad183.add ((x5_2).toNat * 8)).off + 5, none⟩ = some (.int .i64 ((rd_T84 l1_0 x5_2).f2.f3)) ∧ w'.cell? ⟨(ad183.add ((x5_2).toNat * 8)).block, (ad183.add ((x5_2).toNat * 8)).off + 6, none⟩ = some (.bool ((rd_T84 l1_0 x5_2).f2.f4)) ∧ w'.cell? ⟨(ad183.add ((x5_2).toNat * 8)).block, (ad183.add ((x5_2).toNat * 8)).off + 7, none⟩ = some (.slice A183_7 ((rd_T84 l1_0 x5_2).f2.f5).length c183_7)) (ds := []) (bA 44 0) (by kernel_rfl) rfl rfl ⟨(blk_cell BK180.out 0).trans rfl, (blk_cell BK180.out 1).trans rfl, (blk_cell BK180.out 2).trans rfl, (blk_cell BK181.out 0).trans rfl, (blk_cell BK181.out 1).trans rfl, (blk_cell BK181.out 2).trans rfl, (cT HB.out hw182_0), (cT HB.out hw182_1), (cT HB.out hw182_2), (cT HB.out hw182_3), (cT HB.out hw182_4), (cT HB.out hw182_5), (cT HB.out hw182_6), (cT HB.out hw182_7), (cT HB.out hw183_0), (cT HB.out hw183_1), (cT HB.out hw183_2), (cT HB.out hw183_3), (cT HB.out hw183_4), (cT HB.out hw183_5), (cT HB.out hw183_6), (cT HB.out hw183_7), (cT HB.out hw184_0), (cT HB.out hw184_1), (cT HB.out hw184_2), (cT HB.out hw184_3), (cT HB.out hw184_4), (cT HB.out hw184_5), (cT HB.out hw184_6), (cT HB.out hw184_7), (cT HB.out hw185_0), (cT HB.out hw185_1), (cT HB.out hw185_2), (cT HB.out hw185_3), (cT HB.out hw185_4), (cT HB.out hw185_5), (cT HB.out hw185_6), (cT HB.out hw185_7)⟩ (fun hHeld => ?_); refine with_tabW mortmainref06_Same.tab6 mortmainref06_Same.bits6 (fun HT_ HW_ => ?_)
           generalize wr.drew = w35 at BK180 BK181 HB HR182_7 HR183_7 HR184_7 HR185_7 hx182_0 hx182_1 hx182_2 hx182_3 hx182_4 hx182_5 hx182_6 hx182_7 hx183_0 hx183_1 hx183_2 hx183_3 hx183_4 hx183_5 hx183_6 hx183_7 hx184_0 hx184_1 hx184_2 hx184_3 hx184_4 hx184_5 hx184_6 hx184_7 hx185_0 hx185_1 hx185_2 hx185_3 hx185_4 hx185_5 hx185_6 hx185_7 hHeld ⊢
           refine pure_ (i := 0) (N := some 34) (v := ?_) (a' := ?_) (bA 44 1) rfl rfl (an_ HT_.out) (fun _ _ _ h => h) (Or.inl ⟨by rfl, ?_⟩) ?_ ?_
           rotate_left
           ·intro w'
            go_simp
            with_reducible rfl
           rotate_left
           ·simp only [Act.put, q1, q2, q3, i64_w, i32_w]
            rfl
           refine pure_ (i := 2) (N := some 36) (v := ?_) (a' := ?_) (bA 44 5) rfl rfl (an_ HT_.out) (fun _ _ _ h => h) (Or.inl ⟨by rfl, ?_⟩) ?_ ?_
           rotate_left
           ·intro w'
            go_simp
            with_reducible rfl
           rotate_left
           ·simp only [Act.put, q1, q2, q3, i64_w, i32_w]
            rfl
           refine pure_ (i := 6) (N := some 40) (v := ?_) (a' := ?_) (bA 44 69) rfl rfl (an_ HT_.out) (fun _ _ _ h => h) (Or.inl ⟨by rfl, ?_⟩) ?_ ?_
           rotate_left
           ·intro w'
            go_simp
            with_reducible rfl
           rotate_left
           ·simp only [Act.put, q1, q2, q3, i64_w, i32_w]
            rfl
           refine pure_ (i := 8) (N := some 42) (v := ?_) (a' := ?_) (bA 44 325) rfl rfl (an_ HT_.out) (fun _ _ _ h => h) (Or.inl ⟨by rfl, ?_⟩) ?_ ?_
           rotate_left
           ·intro w'
            go_simp
            with_reducible rfl
           rotate_left
           ·simp only [Act.put, q1, q2, q3, i64_w, i32_w]
            rfl
           refine take_ (i := 1) (N := some 35) (v := ?_) (a' := ?_) (bA 44 327) rfl rfl (tw_ HT_.out HW_.out) (fun _ _ _ h => h) (Or.inl ⟨by rfl, ?_⟩) hHeld ?_ ?_
           rotate_left
           ·rintro w' ⟨s0, s1, s2, s3, s4, s5, s6, s7, s8, s9, s10, s11, s12, s13, s14, s15, s16, s17, s18, s19, s20, s21, s22, s23, s24, s25, s26, s27, s28, s29, s30, s31, s32, s33, s34, s35, s36, s37⟩
            try simp only [Int.toNat_natCast] at s0 s1 s2 s3 s4 s5 s6 s7 s8 s9 s10 s11 s12 s13 s14 s15 s16 s17 s18 s19 s20 s21 s22 s23 s24 s25 s26 s27 s28 s29 s30 s31 s32 s33 s34 s35 s36 s37
            go_simp
            with_reducible rfl
           rotate_left
           ·simp only [Act.put, q1, q2, q3, i64_w, i32_w]
            rfl
           refine pure_ (i := 3) (N := some 37) (v := ?_) (a' := ?_) (bA 44 335) rfl rfl (an_ HT_.out) (fun _ _ _ h => h) (Or.inl ⟨by rfl, ?_⟩) ?_ ?_
           rotate_left
           ·intro w'
            go_simp
            with_reducible rfl
           rotate_left
           ·simp only [Act.put, q1, q2, q3, i64_w, i32_w]
            rfl
           refine pure_ (i := 4) (N := some 38) (v := ?_) (a' := ?_) (bA 44 351) rfl rfl (an_ HT_.out) (fun _ _ _ h => h) (Or.inl ⟨by rfl, ?_⟩) ?_ ?_
           rotate_left
           ·intro w'
            go_simp
            with_reducible rfl
           rotate_left
           ·simp only [Act.put, q1, q2, q3, i64_w, i32_w]
            rfl
           refine take_ (i := 5) (N := some 39) (v := ?_) (a' := ?_) (bA 44 383) rfl rfl (tw_ HT_.out HW_.out) (fun _ _ _ h => h) (Or.inl ⟨by rfl, ?_⟩) hHeld ?_ ?_
           rotate_left
           ·rintro w' ⟨s0, s1, s2, s3, s4, s5, s6, s7, s8, s9, s10, s11, s12, s13, s14, s15, s16, s17, s18, s19, s20, s21, s22, s23, s24, s25, s26, s27, s28, s29, s30, s31, s32, s33, s34, s35, s36, s37⟩
            try simp only [Int.toNat_natCast] at s0 s1 s2 s3 s4 s5 s6 s7 s8 s9 s10 s11 s12 s13 s14 s15 s16 s17 s18 s19 s20 s21 s22 s23 s24 s25 s26 s27 s28 s29 s30 s31 s32 s33 s34 s35 s36 s37
            go_simp
            with_reducible rfl
           rotate_left
           ·simp only [Act.put, q1, q2, q3, i64_w, i32_w]
            rfl
           refine take_ (i := 7) (N := some 41) (v := ?_) (a' := ?_) (bA 44 511) rfl rfl (tw_ HT_.out HW_.out) (fun _ _ _ h => h) (Or.inl ⟨by rfl, ?_⟩) hHeld ?_ ?_
           rotate_left
           ·rintro w' ⟨s0, s1, s2, s3, s4, s5, s6, s7, s8, s9, s10, s11, s12, s13, s14, s15, s16, s17, s18, s19, s20, s21, s22, s23, s24, s25, s26, s27, s28, s29, s30, s31, s32, s33, s34, s35, s36, s37⟩
            try simp only [Int.toNat_natCast] at s0 s1 s2 s3 s4 s5 s6 s7 s8 s9 s10 s11 s12 s13 s14 s15 s16 s17 s18 s19 s20 s21 s22 s23 s24 s25 s26 s27 s28 s29 s30 s31 s32 s33 s34 s35 s36 s37
            go_simp
            with_reducible rfl
           rotate_left
           ·simp only [Act.put, q1, q2, q3, i64_w, i32_w]
            rfl
           refine pure_ (i := 9) (N := some 43) (v := ?_) (a' := ?_) (bA 44 1023) rfl rfl (an_ HT_.out) (fun _ _ _ h => h) (Or.inl ⟨by rfl, ?_⟩) ?_ ?_
           rotate_left
           ·intro w'
            go_simp
            with_reducible rfl
           rotate_left
           ·simp only [Act.put, q1, q2, q3, i64_w, i32_w]
            rfl
           refine pure_ (i := 10) (N := some 44) (v := ?_) (a' := ?_) (bA 44 2047) rfl rfl (an_ HT_.out) (fun _ _ _ h => h) (Or.inl ⟨by rfl, ?_⟩) ?_ ?_
           rotate_left
           ·intro w'
            go_simp
            with_reducible rfl
           rotate_left
           ·simp only [Act.put, q1, q2, q3, i64_w, i32_w]
            rfl
           refine take_ (i := 11) (N := some 45) (v := ?_) (a' := ?_) (bA 44 4095) rfl rfl (tw_ HT_.out HW_.out) (fun _ _ _ h => h) (Or.inl ⟨by rfl, ?_⟩) hHeld ?_ ?_
           rotate_left
           ·rintro w' ⟨s0, s1, s2, s3, s4, s5, s6, s7, s8, s9, s10, s11, s12, s13, s14, s15, s16, s17, s18, s19, s20, s21, s22, s23, s24, s25, s26, s27, s28, s29, s30, s31, s32, s33, s34, s35, s36, s37⟩
            try simp only [Int.toNat_natCast] at s0 s1 s2 s3 s4 s5 s6 s7 s8 s9 s10 s11 s12 s13 s14 s15 s16 s17 s18 s19 s20 s21 s22 s23 s24 s25 s26 s27 s28 s29 s30 s31 s32 s33 s34 s35 s36 s37
            go_simp
            with_reducible rfl
           rotate_left
           ·simp only [Act.put, q1, q2, q3, i64_w, i32_w]
            rfl
           refine pure_ (i := 12) (N := some 46) (v := ?_) (a' := ?_) (bA 44 8191) rfl rfl (an_ HT_.out) (fun _ _ _ h => h) (Or.inl ⟨by rfl, ?_⟩) ?_ ?_
           rotate_left
           ·intro w'
            go_simp
            with_reducible rfl
           rotate_left
           ·simp only [Act.put, q1, q2, q3, i64_w, i32_w]
            rfl
           refine pure_ (i := 13) (N := some 47) (v := ?_) (a' := ?_) (bA 44 16383) rfl rfl (an_ HT_.out) (fun _ _ _ h => h) (Or.inl ⟨by rfl, ?_⟩) ?_ ?_
           rotate_left
           ·intro w'
            go_simp
            with_reducible rfl
           rotate_left
           ·simp only [Act.put, q1, q2, q3, i64_w, i32_w]
            rfl
           refine pure_ (i := 14) (N := some 48) (v := ?_) (a' := ?_) (bA 44 32767) rfl rfl (an_ HT_.out) (fun _ _ _ h => h) (Or.inl ⟨by rfl, ?_⟩) ?_ ?_
           rotate_left
           ·intro w'
            go_simp
            with_reducible rfl
           rotate_left
           ·simp only [Act.put, q1, q2, q3, i64_w, i32_w]
            rfl
           refine pure_ (i := 16) (N := some 50) (v := ?_) (a' := ?_) (bA 44 98303) rfl rfl (an_ HT_.out) (fun _ _ _ h => h) (Or.inl ⟨by rfl, ?_⟩) ?_ ?_
           rotate_left
           ·intro w'
            go_simp
            with_reducible rfl
           rotate_left
           ·simp only [Act.put, q1, q2, q3, i64_w, i32_w]
            rfl
           refine pure_ (i := 20) (N := some 54) (v := ?_) (a' := ?_) (bA 44 1146879) rfl rfl (an_ HT_.out) (fun _ _ _ h => h) (Or.inl ⟨by rfl, ?_⟩) ?_ ?_
           rotate_left
           ·intro w'
            go_simp
            with_reducible rfl
           rotate_left
           ·simp only [Act.put, q1, q2, q3, i64_w, i32_w]
            rfl
           refine pure_ (i := 22) (N := some 56) (v := ?_) (a' := ?_) (bA 44 5341183) rfl rfl (an_ HT_.out) (fun _ _ _ h => h) (Or.inl ⟨by rfl, ?_⟩) ?_ ?_
           rotate_left
           ·intro w'
            go_simp
            with_reducible rfl
           rotate_left
           ·simp only [Act.put, q1, q2, q3, i64_w, i32_w]
            rfl
           refine take_ (i := 15) (N := some 49) (v := ?_) (a' := ?_) (bA 44 5373951) rfl rfl (tw_ HT_.out HW_.out) (fun _ _ _ h => h) (Or.inl ⟨by rfl, ?_⟩) hHeld ?_ ?_
           rotate_left
           ·rintro w' ⟨s0, s1, s2, s3, s4, s5, s6, s7, s8, s9, s10, s11, s12, s13, s14, s15, s16, s17, s18, s19, s20, s21, s22, s23, s24, s25, s26, s27, s28, s29, s30, s31, s32, s33, s34, s35, s36, s37⟩
            try simp only [Int.toNat_natCast] at s0 s1 s2 s3 s4 s5 s6 s7 s8 s9 s10 s11 s12 s13 s14 s15 s16 s17 s18 s19 s20 s21 s22 s23 s24 s25 s26 s27 s28 s29 s30 s31 s32 s33 s34 s35 s36 s37
            go_simp
            with_reducible rfl
           rotate_left
           ·simp only [Act.put, q1, q2, q3, i64_w, i32_w]
            rfl
           refine pure_ (i := 17) (N := some 51) (v := ?_) (a' := ?_) (bA 44 5505023) rfl rfl (an_ HT_.out) (fun _ _ _ h => h) (Or.inl ⟨by rfl, ?_⟩) ?_ ?_
           rotate_left
           ·intro w'
            go_simp
            with_reducible rfl
           rotate_left
           ·simp only [Act.put, q1, q2, q3, i64_w, i32_w]
            rfl
           refine pure_ (i := 18) (N := some 52) (v := ?_) (a' := ?_) (bA 44 5767167) rfl rfl (an_ HT_.out) (fun _ _ _ h => h) (Or.inl ⟨by rfl, ?_⟩) ?_ ?_
           rotate_left
           ·intro w'
            go_simp
            with_reducible rfl
           rotate_left
           ·simp only [Act.put, q1, q2, q3, i64_w, i32_w]
            rfl
           refine take_ (i := 19) (N := some 53) (v := ?_) (a' := ?_) (bA 44 6291455) rfl rfl (tw_ HT_.out HW_.out) (fun _ _ _ h => h) (Or.inl ⟨by rfl, ?_⟩) hHeld ?_ ?_
           rotate_left
           ·rintro w' ⟨s0, s1, s2, s3, s4, s5, s6, s7, s8, s9, s10, s11, s12, s13, s14, s15, s16, s17, s18, s19, s20, s21, s22, s23, s24, s25, s26, s27, s28, s29, s30, s31, s32, s33, s34, s35, s36, s37⟩
            try simp only [Int.toNat_natCast] at s0 s1 s2 s3 s4 s5 s6 s7 s8 s9 s10 s11 s12 s13 s14 s15 s16 s17 s18 s19 s20 s21 s22 s23 s24 s25 s26 s27 s28 s29 s30 s31 s32 s33 s34 s35 s36 s37
            go_simp
            with_reducible rfl
           rotate_left
           ·simp only [Act.put, q1, q2, q3, i64_w, i32_w]
            rfl
           refine take_ (i := 21) (N := some 55) (v := ?_) (a' := ?_) (bA 44 8388607) rfl rfl (tw_ HT_.out HW_.out) (fun _ _ _ h => h) (Or.inl ⟨by rfl, ?_⟩) hHeld ?_ ?_
           rotate_left
           ·rintro w' ⟨s0, s1, s2, s3, s4, s5, s6, s7, s8, s9, s10, s11, s12, s13, s14, s15, s16, s17, s18, s19, s20, s21, s22, s23, s24, s25, s26, s27, s28, s29, s30, s31, s32, s33, s34, s35, s36, s37⟩
            try simp only [Int.toNat_natCast] at s0 s1 s2 s3 s4 s5 s6 s7 s8 s9 s10 s11 s12 s13 s14 s15 s16 s17 s18 s19 s20 s21 s22 s23 s24 s25 s26 s27 s28 s29 s30 s31 s32 s33 s34 s35 s36 s37
            go_simp
            with_reducible rfl
           rotate_left
           ·simp only [Act.put, q1, q2, q3, i64_w, i32_w]
            rfl
           refine pure_ (i := 23) (N := some 57) (v := ?_) (a' := ?_) (bA 44 16777215) rfl rfl (an_ HT_.out) (fun _ _ _ h => h) (Or.inl ⟨by rfl, ?_⟩) ?_ ?_
           rotate_left
           ·intro w'
            go_simp
            with_reducible rfl
           rotate_left
           ·simp only [Act.put, q1, q2, q3, i64_w, i32_w]
            rfl
           refine pure_ (i := 24) (N := some 58) (v := ?_) (a' := ?_) (bA 44 33554431) rfl rfl (an_ HT_.out) (fun _ _ _ h => h) (Or.inl ⟨by rfl, ?_⟩) ?_ ?_
           rotate_left
           ·intro w'
            go_simp
            with_reducible rfl
           rotate_left
           ·simp only [Act.put, q1, q2, q3, i64_w, i32_w]
            rfl
           refine take_ (i := 25) (N := some 59) (v := ?_) (a' := ?_) (bA 44 67108863) rfl rfl (tw_ HT_.out HW_.out) (fun _ _ _ h => h) (Or.inl ⟨by rfl, ?_⟩) hHeld ?_ ?_
           rotate_left
           ·rintro w' ⟨s0, s1, s2, s3, s4, s5, s6, s7, s8, s9, s10, s11, s12, s13, s14, s15, s16, s17, s18, s19, s20, s21, s22, s23, s24, s25, s26, s27, s28, s29, s30, s31, s32, s33, s34, s35, s36, s37⟩
            try simp only [Int.toNat_natCast] at s0 s1 s2 s3 s4 s5 s6 s7 s8 s9 s10 s11 s12 s13 s14 s15 s16 s17 s18 s19 s20 s21 s22 s23 s24 s25 s26 s27 s28 s29 s30 s31 s32 s33 s34 s35 s36 s37
            go_simp
            with_reducible rfl
           rotate_left
           ·simp only [Act.put, q1, q2, q3, i64_w, i32_w]
            rfl
           refine pure_ (i := 26) (N := some 60) (v := ?_) (a' := ?_) (bA 44 134217727) rfl rfl (an_ HT_.out) (fun _ _ _ h => h) (Or.inl ⟨by rfl, ?_⟩) ?_ ?_
           rotate_left
           ·intro w'
            go_simp
            with_reducible rfl
           rotate_left
           ·simp only [Act.put, q1, q2, q3, i64_w, i32_w]
            rfl
           refine pure_ (i := 27) (N := some 61) (v := ?_) (a' := ?_) (bA 44 268435455) rfl rfl (an_ HT_.out) (fun _ _ _ h => h) (Or.inl ⟨by rfl, ?_⟩) ?_ ?_
           rotate_left
           ·intro w'
            go_simp
            with_reducible rfl
           rotate_left
           ·simp only [Act.put, q1, q2, q3, i64_w, i32_w]
            rfl
           refine pure_ (i := 28) (N := some 62) (v := ?_) (a' := ?_) (bA 44 536870911) rfl rfl (an_ HT_.out) (fun _ _ _ h => h) (Or.inl ⟨by rfl, ?_⟩) ?_ ?_
           rotate_left
           ·intro w'
            go_simp
            with_reducible rfl
           rotate_left
           ·simp only [Act.put, q1, q2, q3, i64_w, i32_w]
            rfl
           refine pure_ (i := 29) (N := some 63) (v := undef) (a' := ?_) (bA 44 1073741823) rfl rfl (an_ HT_.out) (fun _ _ _ h => h) (Or.inr ⟨by rfl, rfl⟩) ?_ ?_
           rotate_left
           ·simp only [Act.put, q1, q2, q3, i64_w, i32_w]
            rfl
           refine pure_ (i := 30) (N := some 64) (v := undef) (a' := ?_) (bA 44 2147483647) rfl rfl (an_ HT_.out) (fun _ _ _ h => h) (Or.inr ⟨by rfl, rfl⟩) ?_ ?_
           rotate_left
           ·simp only [Act.put, q1, q2, q3, i64_w, i32_w]
            rfl
           refine pure_ (i := 31) (N := some 65) (v := undef) (a' := ?_) (bA 44 4294967295) rfl rfl (an_ HT_.out) (fun _ _ _ h => h) (Or.inr ⟨by rfl, rfl⟩) ?_ ?_
           rotate_left
           ·simp only [Act.put, q1, q2, q3, i64_w, i32_w]
            rfl
           refine pure_ (i := 32) (N := some 66) (v := undef) (a' := ?_) (bA 44 8589934591) rfl rfl (an_ HT_.out) (fun _ _ _ h => h) (Or.inr ⟨by rfl, rfl⟩) ?_ ?_
           rotate_left
           ·simp only [Act.put, q1, q2, q3, i64_w, i32_w]
            rfl
           refine pure_ (i := 33) (N := some 67) (v := undef) (a' := ?_) (bA 44 17179869183) rfl rfl (an_ HT_.out) (fun _ _ _ h => h) (Or.inr ⟨by rfl, rfl⟩) ?_ ?_
           rotate_left
           ·simp only [Act.put, q1, q2, q3, i64_w, i32_w]
            rfl
           refine pure_ (i := 34) (N := some 68) (v := undef) (a' := ?_) (bA 44 34359738367) rfl rfl (an_ HT_.out) (fun _ _ _ h => h) (Or.inr ⟨by rfl, rfl⟩) ?_ ?_
           rotate_left
           ·simp only [Act.put, q1, q2, q3, i64_w, i32_w]
            rfl
           refine pure_ (i := 35) (N := some 69) (v := undef) (a' := ?_) (bA 44 68719476735) rfl rfl (an_ HT_.out) (fun _ _ _ h => h) (Or.inr ⟨by rfl, rfl⟩) ?_ ?_
           rotate_left
           ·simp only [Act.put, q1, q2, q3, i64_w, i32_w]
            rfl
           refine pure_ (i := 36) (N := some 70) (v := undef) (a' := ?_) (bA 44 137438953471) rfl rfl (an_ HT_.out) (fun _ _ _ h => h) (Or.inr ⟨by rfl, rfl⟩) ?_ ?_
           rotate_left
           ·simp only [Act.put, q1, q2, q3, i64_w, i32_w]
            rfl
           refine pure_ (i := 37) (N := some 71) (v := undef) (a' := ?_) (bA 44 274877906943) rfl rfl (an_ HT_.out) (fun _ _ _ h => h) (Or.inr ⟨by rfl, rfl⟩) ?_ ?_
           rotate_left
           ·simp only [Act.put, q1, q2, q3, i64_w, i32_w]
            rfl
           refine pure_ (i := 38) (N := some 72) (v := undef) (a' := ?_) (bA 44 549755813887) rfl rfl (an_ HT_.out) (fun _ _ _ h => h) (Or.inr ⟨by rfl, rfl⟩) ?_ ?_
           rotate_left
           ·simp only [Act.put, q1, q2, q3, i64_w, i32_w]
            rfl
           refine pure_ (i := 39) (N := some 73) (v := undef) (a' := ?_) (bA 44 1099511627775) rfl rfl (an_ HT_.out) (fun _ _ _ h => h) (Or.inr ⟨by rfl, rfl⟩) ?_ ?_
           rotate_left
           ·simp only [Act.put, q1, q2, q3, i64_w, i32_w]
            rfl
           refine pure_ (i := 40) (N := some 74) (v := undef) (a' := ?_) (bA 44 2199023255551) rfl rfl (an_ HT_.out) (fun _ _ _ h => h) (Or.inr ⟨by rfl, rfl⟩) ?_ ?_
           rotate_left
           ·simp only [Act.put, q1, q2, q3, i64_w, i32_w]
            rfl
           refine pure_ (i := 41) (N := some 75) (v := undef) (a' := ?_) (bA 44 4398046511103) rfl rfl (an_ HT_.out) (fun _ _ _ h => h) (Or.inr ⟨by rfl, rfl⟩) ?_ ?_
           rotate_left
           ·simp only [Act.put, q1, q2, q3, i64_w, i32_w]
            rfl
           refine pure_ (i := 42) (N := some 76) (v := undef) (a' := ?_) (bA 44 8796093022207) rfl rfl (an_ HT_.out) (fun _ _ _ h => h) (Or.inr ⟨by rfl, rfl⟩) ?_ ?_
           rotate_left
           ·simp only [Act.put, q1, q2, q3, i64_w, i32_w]
            rfl
           refine pure_ (i := 43) (N := some 77) (v := ?_) (a' := ?_) (bA 44 17592186044415) rfl rfl (an_ HT_.out) (fun _ _ _ h => h) (Or.inl ⟨by rfl, ?_⟩) ?_ ?_
           rotate_left
           ·intro w'
            go_simp
            with_reducible rfl
           rotate_left
           ·simp only [Act.put, q1, q2, q3, i64_w, i32_w]
            rfl
           refine done_ (done_of HT_.out (by kernel_rfl)) ?_
           try go_wp2
           go_ret
           exact ⟨by first | rfl | (simp [errW_none, errW_some] <;> rfl) | (simp [*, errW_none, errW_some] <;> rfl), by repeat (first | (with_reducible first | exact HB.out | apply below_alloc | apply pw_below_drewN | apply below_drew1 | refine below_set ?_ GE180.out | refine below_set ?_ GE181.out) | exact HB.out)⟩
         ·rw [if_neg c21] at H
          have c21b0 : (((rd_T84 l0_0 x5_2).f0) == ((rd_T84 l1_0 x5_2).f0)) = false := beq_eq_false_iff_ne.mpr c21
          have c21b1 : (((rd_T84 l0_0 x5_2).f0) != ((rd_T84 l1_0 x5_2).f0)) = true := bne_iff_ne.mpr c21
          obtain rfl := Option.some.inj H
          have hnb36 := NB180_181.out
          have hnc36 := NB181_180.out
          have hcz37_0 : wr.cell? ⟨gb180, 0, none⟩ = some (.slice A0_0 l0_0.length c0_0) := (blk_cell BK180.out 0).trans rfl
          have hcz37_1 : wr.cell? ⟨gb180, 1, none⟩ = some (.int .i64 a0_1) := (blk_cell BK180.out 1).trans rfl
          have hcz37_2 : wr.cell? ⟨gb180, 2, none⟩ = some (.int .i64 a0_2) := (blk_cell BK180.out 2).trans rfl
          have hfz37_0 := blk_frozen BK180.out 0
          have hfz37_1 := blk_frozen BK180.out 1
          have hfz37_2 := blk_frozen BK180.out 2
          try go_wp2
          have n0_ := Aside0.mk (blk_drew BK180.out)
          have n1_ := Aside0.mk (blk_drew BK181.out)
          have n2_ := Aside0.mk (below_drew1 HB.out)
          clear BK180
          clear BK181
          clear HB
          have BK180 := n0_
          have BK181 := n1_
          have HB := n2_
          clear n0_ n1_ n2_
          have p182 : 0 ≤ (x5_2 : Int) := oT
          have q182 : x5_2 < (l0_0.length : Int) := oT
          obtain ⟨ad182, A182_7, c182_7, e182, hx182_0, hx182_1, hx182_2, hx182_3, hx182_4, hx182_5, hx182_6, hx182_7, hl182_7, hi182_7⟩ := at_T84 HR0_0.out x5_2 p182 q182
          have hw182_7 := hx182_7
          have hw182_6 := hx182_6
          have hw182_5 := hx182_5
          have hw182_4 := hx182_4
          have hw182_3 := hx182_3
          have hw182_2 := hx182_2
          have hw182_1 := hx182_1
          have hw182_0 := hx182_0
          cases e182
          replace hx182_0 := cT HB.out hx182_0
          replace hx182_1 := cT HB.out hx182_1
          replace hx182_2 := cT HB.out hx182_2
          replace hx182_3 := cT HB.out hx182_3
          replace hx182_4 := cT HB.out hx182_4
          replace hx182_5 := cT HB.out hx182_5
          replace hx182_6 := cT HB.out hx182_6
          replace hx182_7 := cT HB.out hx182_7
          have HR182_7 := Aside0.mk hi182_7
          have HC182_7 := Aside0.mk hl182_7
          clear hi182_7 hl182_7
          replace p182 := eq_true p182
          replace q182 := eq_true q182
          have p183 : 0 ≤ (x5_2 : Int) := oT
          have q183 : x5_2 < (l1_0.length : Int) := oT
          obtain ⟨ad183, A183_7, c183_7, e183, hx183_0, hx183_1, hx183_2, hx183_3, hx183_4, hx183_5, hx183_6, hx183_7, hl183_7, hi183_7⟩ := at_T84 HR1_0.out x5_2 p183 q183
          have hw183_7 := hx183_7
          have hw183_6 := hx183_6
          have hw183_5 := hx183_5
          have hw183_4 := hx183_4
          have hw183_3 := hx183_3
          have hw183_2 := hx183_2
          have hw183_1 := hx183_1
          have hw183_0 := hx183_0
          cases e183
          replace hx183_0 := cT HB.out hx183_0
          replace hx183_1 := cT HB.out hx183_1
          replace hx183_2 := cT HB.out hx183_2
          replace hx183_3 := cT HB.out hx183_3
          replace hx183_4 := cT HB.out hx183_4
          replace hx183_5 := cT HB.out hx183_5
          replace hx183_6 := cT HB.out hx183_6
          replace hx183_7 := cT HB.out hx183_7
          have HR183_7 := Aside0.mk hi183_7
          have HC183_7 := Aside0.mk hl183_7
          clear hi183_7 hl183_7
          replace p183 := eq_true p183
          replace q183 := eq_true q183
          refine start_ (n := 44) (S := fun w' => w'.cell? ⟨gb180, 0, none⟩ = some (.slice (some ad182) l0_0.length c0_0) ∧ w'.cell? ⟨gb180, 1, none⟩ = some (.int .i64 a0_1) ∧ w'.cell? ⟨gb180, 2, none⟩ = some (.int .i64 a0_2) ∧ w'.cell? ⟨gb181, 0, none⟩ = some (.slice (some ad183) l1_0.length c1_0) ∧ w'.cell? ⟨gb181, 1, none⟩ = some (.int .i64 a1_1) ∧ w'.cell? ⟨gb181, 2, none⟩ = some (.int .i64 a1_2) ∧ w'.cell? (ad182.add ((x5_2).toNat * 8)) = some (.int .i64 ((rd_T84 l0_0 x5_2).f0)) ∧ w'.cell? ⟨(ad182.add ((x5_2).toNat * 8)).block, (ad182.add ((x5_2).toNat * 8)).off + 1, none⟩ = some (.int .i64 ((rd_T84 l0_0 x5_2).f1)) ∧ w'.cell? ⟨(ad182.add ((x5_2).toNat * 8)).block, (ad182.add ((x5_2).toNat * 8)).off + 2, none⟩ = some (.int .i64 ((rd_T84 l0_0 x5_2).f2.f0)) ∧ w'.cell? ⟨(ad182.add ((x5_2).toNat * 8)).block, (ad182.add ((x5_2).toNat * 8)).off + 3, none⟩ = some (.int .i64 ((rd_T84 l0_0 x5_2).f2.f1)) ∧ w'.cell? ⟨(ad182.add ((x5_2).toNat * 8)).block, (ad182.add ((x5_2).toNat * 8)).off + 4, none⟩ = some (.int .i64 ((rd_T84 l0_0 x5_2).f2.f2)) ∧ w'.cell? ⟨(ad182.add ((x5_2).toNat * 8)).block, (ad182.add ((x5_2).toNat * 8)).off + 5, none⟩ = some (.int .i64 ((rd_T84 l0_0 x5_2).f2.f3)) ∧ w'.cell? ⟨(ad182.add ((x5_2).toNat * 8)).block, (ad182.add ((x5_2).toNat * 8)).off + 6, none⟩ = some (.bool ((rd_T84 l0_0 x5_2).f2.f4)) ∧ w'.cell? ⟨(ad182.add ((x5_2).toNat * 8)).block, (ad182.add ((x5_2).toNat * 8)).off + 7, none⟩ = some (.slice A182_7 ((rd_T84 l0_0 x5_2).f2.f5).length c182_7) ∧ w'.cell? (ad183.add ((x5_2).toNat * 8)) = some (.int .i64 ((rd_T84 l1_0 x5_2).f0)) ∧ w'.cell? ⟨(ad183.add ((x5_2).toNat * 8)).block, (ad183.add ((x5_2).toNat * 8)).off + 1, none⟩ = some (.int .i64 ((rd_T84 l1_0 x5_2).f1)) ∧ w'.cell? ⟨(ad183.add ((x5_2).toNat * 8)).block, (ad183.add ((x5_2).toNat * 8)).off + 2, none⟩ = some (.int .i64 ((rd_T84 l1_0 x5_2).f2.f0)) ∧ w'.cell? ⟨(ad183.add ((x5_2).toNat * 8)).block, (ad183.add ((x5_2).toNat * 8)).off + 3, none⟩ = some (.int .i64 ((rd_T84 l1_0 x5_2).f2.f1)) ∧ w'.cell? ⟨(ad183.add ((x5_2).toNat * 8)).block, (ad183.add ((x5_2).toNat * 8)).off + 4, none⟩ = some (.int .i64 ((rd_T84 l1_0 x5_2).f2.f2)) ∧ w'.cell? ⟨(ad183.add ((x5_2).toNat * 8)).block, (ad183.add ((x5_2).toNat * 8)).off + 5, none⟩ = some (.int .i64 ((rd_T84 l1_0 x5_2).f2.f3)) ∧ w'.cell? ⟨(ad183.add ((x5_2).toNat * 8)).block, (ad183.add ((x5_2).toNat * 8)).off + 6, none⟩ = some (.bool ((rd_T84 l1_0 x5_2).f2.f4)) ∧ w'.cell? ⟨(ad183.add ((x5_2).toNat * 8)).block, (ad183.add ((x5_2).toNat * 8)).off + 7, none⟩ = some (.slice A183_7 ((rd_T84 l1_0 x5_2).f2.f5).length c183_7)) (ds := []) (bA 44 0) (by kernel_rfl) rfl rfl ⟨(blk_cell BK180.out 0).trans rfl, (blk_cell BK180.out 1).trans rfl, (blk_cell BK180.out 2).trans rfl, (blk_cell BK181.out 0).trans rfl, (blk_cell BK181.out 1).trans rfl, (blk_cell BK181.out 2).trans rfl, (cT HB.out hw182_0), (cT HB.out hw182_1), (cT HB.out hw182_2), (cT HB.out hw182_3), (cT HB.out hw182_4), (cT HB.out hw182_5), (cT HB.out hw182_6), (cT HB.out hw182_7), (cT HB.out hw183_0), (cT HB.out hw183_1), (cT HB.out hw183_2), (cT HB.out hw183_3), (cT HB.out hw183_4), (cT HB.out hw183_5), (cT HB.out hw183_6), (cT HB.out hw183_7)⟩ (fun hHeld => ?_); refine with_tabW mortmainref06_Same.tab6 mortmainref06_Same.bits6 (fun HT_ HW_ => ?_)
          generalize wr.drew = w38 at BK180 BK181 HB HR182_7 HR183_7 hx182_0 hx182_1 hx182_2 hx182_3 hx182_4 hx182_5 hx182_6 hx182_7 hx183_0 hx183_1 hx183_2 hx183_3 hx183_4 hx183_5 hx183_6 hx183_7 hHeld ⊢
          refine pure_ (i := 0) (N := some 34) (v := ?_) (a' := ?_) (bA 44 1) rfl rfl (an_ HT_.out) (fun _ _ _ h => h) (Or.inl ⟨by rfl, ?_⟩) ?_ ?_
          rotate_left
          ·intro w'
           go_simp
           with_reducible rfl
          rotate_left
          ·simp only [Act.put, q1, q2, q3, i64_w, i32_w]
           rfl
          refine pure_ (i := 2) (N := some 36) (v := ?_) (a' := ?_) (bA 44 5) rfl rfl (an_ HT_.out) (fun _ _ _ h => h) (Or.inl ⟨by rfl, ?_⟩) ?_ ?_
          rotate_left
          ·intro w'
           go_simp
           with_reducible rfl
          rotate_left
          ·simp only [Act.put, q1, q2, q3, i64_w, i32_w]
           rfl
          refine pure_ (i := 6) (N := some 40) (v := ?_) (a' := ?_) (bA 44 69) rfl rfl (an_ HT_.out) (fun _ _ _ h => h) (Or.inl ⟨by rfl, ?_⟩) ?_ ?_
          rotate_left
          ·intro w'
           go_simp
           with_reducible rfl
          rotate_left
          ·simp only [Act.put, q1, q2, q3, i64_w, i32_w]
           rfl
          refine pure_ (i := 8) (N := some 42) (v := ?_) (a' := ?_) (bA 44 325) rfl rfl (an_ HT_.out) (fun _ _ _ h => h) (Or.inl ⟨by rfl, ?_⟩) ?_ ?_
          rotate_left
          ·intro w'
           go_simp
           with_reducible rfl
          rotate_left
          ·simp only [Act.put, q1, q2, q3, i64_w, i32_w]
           rfl
          refine take_ (i := 1) (N := some 35) (v := ?_) (a' := ?_) (bA 44 327) rfl rfl (tw_ HT_.out HW_.out) (fun _ _ _ h => h) (Or.inl ⟨by rfl, ?_⟩) hHeld ?_ ?_
          rotate_left
          ·rintro w' ⟨s0, s1, s2, s3, s4, s5, s6, s7, s8, s9, s10, s11, s12, s13, s14, s15, s16, s17, s18, s19, s20, s21⟩
           try simp only [Int.toNat_natCast] at s0 s1 s2 s3 s4 s5 s6 s7 s8 s9 s10 s11 s12 s13 s14 s15 s16 s17 s18 s19 s20 s21
           go_simp
           with_reducible rfl
          rotate_left
          ·simp only [Act.put, q1, q2, q3, i64_w, i32_w]
           rfl
          refine pure_ (i := 3) (N := some 37) (v := ?_) (a' := ?_) (bA 44 335) rfl rfl (an_ HT_.out) (fun _ _ _ h => h) (Or.inl ⟨by rfl, ?_⟩) ?_ ?_
          rotate_left
          ·intro w'
           go_simp
           with_reducible rfl
          rotate_left
          ·simp only [Act.put, q1, q2, q3, i64_w, i32_w]
           rfl
          refine pure_ (i := 4) (N := some 38) (v := ?_) (a' := ?_) (bA 44 351) rfl rfl (an_ HT_.out) (fun _ _ _ h => h) (Or.inl ⟨by rfl, ?_⟩) ?_ ?_
          rotate_left
          ·intro w'
           go_simp
           with_reducible rfl
          rotate_left
          ·simp only [Act.put, q1, q2, q3, i64_w, i32_w]
           rfl
          refine take_ (i := 5) (N := some 39) (v := ?_) (a' := ?_) (bA 44 383) rfl rfl (tw_ HT_.out HW_.out) (fun _ _ _ h => h) (Or.inl ⟨by rfl, ?_⟩) hHeld ?_ ?_
          rotate_left
          ·rintro w' ⟨s0, s1, s2, s3, s4, s5, s6, s7, s8, s9, s10, s11, s12, s13, s14, s15, s16, s17, s18, s19, s20, s21⟩
           try simp only [Int.toNat_natCast] at s0 s1 s2 s3 s4 s5 s6 s7 s8 s9 s10 s11 s12 s13 s14 s15 s16 s17 s18 s19 s20 s21
           go_simp
           with_reducible rfl
          rotate_left
          ·simp only [Act.put, q1, q2, q3, i64_w, i32_w]
           rfl
          refine take_ (i := 7) (N := some 41) (v := ?_) (a' := ?_) (bA 44 511) rfl rfl (tw_ HT_.out HW_.out) (fun _ _ _ h => h) (Or.inl ⟨by rfl, ?_⟩) hHeld ?_ ?_
          rotate_left
          ·rintro w' ⟨s0, s1, s2, s3, s4, s5, s6, s7, s8, s9, s10, s11, s12, s13, s14, s15, s16, s17, s18, s19, s20, s21⟩
           try simp only [Int.toNat_natCast] at s0 s1 s2 s3 s4 s5 s6 s7 s8 s9 s10 s11 s12 s13 s14 s15 s16 s17 s18 s19 s20 s21
           go_simp
           with_reducible rfl
          rotate_left
          ·simp only [Act.put, q1, q2, q3, i64_w, i32_w]
           rfl
          refine pure_ (i := 9) (N := some 43) (v := ?_) (a' := ?_) (bA 44 1023) rfl rfl (an_ HT_.out) (fun _ _ _ h => h) (Or.inl ⟨by rfl, ?_⟩) ?_ ?_
          rotate_left
          ·intro w'
           go_simp
           with_reducible rfl
          rotate_left
          ·simp only [Act.put, q1, q2, q3, i64_w, i32_w]
           rfl
          refine pure_ (i := 10) (N := some 44) (v := ?_) (a' := ?_) (bA 44 2047) rfl rfl (an_ HT_.out) (fun _ _ _ h => h) (Or.inl ⟨by rfl, ?_⟩) ?_ ?_
          rotate_left
          ·intro w'
           go_simp
           with_reducible rfl
          rotate_left
          ·simp only [Act.put, q1, q2, q3, i64_w, i32_w]
           rfl
          refine take_ (i := 11) (N := some 45) (v := ?_) (a' := ?_) (bA 44 4095) rfl rfl (tw_ HT_.out HW_.out) (fun _ _ _ h => h) (Or.inl ⟨by rfl, ?_⟩) hHeld ?_ ?_
          rotate_left
          ·rintro w' ⟨s0, s1, s2, s3, s4, s5, s6, s7, s8, s9, s10, s11, s12, s13, s14, s15, s16, s17, s18, s19, s20, s21⟩
           try simp only [Int.toNat_natCast] at s0 s1 s2 s3 s4 s5 s6 s7 s8 s9 s10 s11 s12 s13 s14 s15 s16 s17 s18 s19 s20 s21
           go_simp
           with_reducible rfl
          rotate_left
          ·simp only [Act.put, q1, q2, q3, i64_w, i32_w]
           rfl
          refine pure_ (i := 12) (N := some 46) (v := ?_) (a' := ?_) (bA 44 8191) rfl rfl (an_ HT_.out) (fun _ _ _ h => h) (Or.inl ⟨by rfl, ?_⟩) ?_ ?_
          rotate_left
          ·intro w'
           go_simp
           with_reducible rfl
          rotate_left
          ·simp only [Act.put, q1, q2, q3, i64_w, i32_w]
           rfl
          refine pure_ (i := 13) (N := some 47) (v := ?_) (a' := ?_) (bA 44 16383) rfl rfl (an_ HT_.out) (fun _ _ _ h => h) (Or.inl ⟨by rfl, ?_⟩) ?_ ?_
          rotate_left
          ·intro w'
           go_simp
           with_reducible rfl
          rotate_left
          ·simp only [Act.put, q1, q2, q3, i64_w, i32_w]
           rfl
          refine pure_ (i := 14) (N := some 48) (v := undef) (a' := ?_) (bA 44 32767) rfl rfl (an_ HT_.out) (fun _ _ _ h => h) (Or.inr ⟨by rfl, rfl⟩) ?_ ?_
          rotate_left
          ·simp only [Act.put, q1, q2, q3, i64_w, i32_w]
           rfl
          refine pure_ (i := 15) (N := some 49) (v := undef) (a' := ?_) (bA 44 65535) rfl rfl (an_ HT_.out) (fun _ _ _ h => h) (Or.inr ⟨by rfl, rfl⟩) ?_ ?_
          rotate_left
          ·simp only [Act.put, q1, q2, q3, i64_w, i32_w]
           rfl
          refine pure_ (i := 16) (N := some 50) (v := undef) (a' := ?_) (bA 44 131071) rfl rfl (an_ HT_.out) (fun _ _ _ h => h) (Or.inr ⟨by rfl, rfl⟩) ?_ ?_
          rotate_left
          ·simp only [Act.put, q1, q2, q3, i64_w, i32_w]
           rfl
          refine pure_ (i := 17) (N := some 51) (v := undef) (a' := ?_) (bA 44 262143) rfl rfl (an_ HT_.out) (fun _ _ _ h => h) (Or.inr ⟨by rfl, rfl⟩) ?_ ?_
          rotate_left
          ·simp only [Act.put, q1, q2, q3, i64_w, i32_w]
           rfl
          refine pure_ (i := 18) (N := some 52) (v := undef) (a' := ?_) (bA 44 524287) rfl rfl (an_ HT_.out) (fun _ _ _ h => h) (Or.inr ⟨by rfl, rfl⟩) ?_ ?_
          rotate_left
          ·simp only [Act.put, q1, q2, q3, i64_w, i32_w]
           rfl
          refine pure_ (i := 19) (N := some 53) (v := undef) (a' := ?_) (bA 44 1048575) rfl rfl (an_ HT_.out) (fun _ _ _ h => h) (Or.inr ⟨by rfl, rfl⟩) ?_ ?_
          rotate_left
          ·simp only [Act.put, q1, q2, q3, i64_w, i32_w]
           rfl
          refine pure_ (i := 20) (N := some 54) (v := undef) (a' := ?_) (bA 44 2097151) rfl rfl (an_ HT_.out) (fun _ _ _ h => h) (Or.inr ⟨by rfl, rfl⟩) ?_ ?_
          rotate_left
          ·simp only [Act.put, q1, q2, q3, i64_w, i32_w]
           rfl
          refine pure_ (i := 21) (N := some 55) (v := undef) (a' := ?_) (bA 44 4194303) rfl rfl (an_ HT_.out) (fun _ _ _ h => h) (Or.inr ⟨by rfl, rfl⟩) ?_ ?_
          rotate_left
          ·simp only [Act.put, q1, q2, q3, i64_w, i32_w]
           rfl
          refine pure_ (i := 22) (N := some 56) (v := undef) (a' := ?_) (bA 44 8388607) rfl rfl (an_ HT_.out) (fun _ _ _ h => h) (Or.inr ⟨by rfl, rfl⟩) ?_ ?_
          rotate_left
          ·simp only [Act.put, q1, q2, q3, i64_w, i32_w]
           rfl
          refine pure_ (i := 23) (N := some 57) (v := undef) (a' := ?_) (bA 44 16777215) rfl rfl (an_ HT_.out) (fun _ _ _ h => h) (Or.inr ⟨by rfl, rfl⟩) ?_ ?_
          rotate_left
          ·simp only [Act.put, q1, q2, q3, i64_w, i32_w]
           rfl
          refine pure_ (i := 24) (N := some 58) (v := undef) (a' := ?_) (bA 44 33554431) rfl rfl (an_ HT_.out) (fun _ _ _ h => h) (Or.inr ⟨by rfl, rfl⟩) ?_ ?_
          rotate_left
          ·simp only [Act.put, q1, q2, q3, i64_w, i32_w]
           rfl
          refine pure_ (i := 25) (N := some 59) (v := undef) (a' := ?_) (bA 44 67108863) rfl rfl (an_ HT_.out) (fun _ _ _ h => h) (Or.inr ⟨by rfl, rfl⟩) ?_ ?_
          rotate_left
          ·simp only [Act.put, q1, q2, q3, i64_w, i32_w]
           rfl
          refine pure_ (i := 26) (N := some 60) (v := undef) (a' := ?_) (bA 44 134217727) rfl rfl (an_ HT_.out) (fun _ _ _ h => h) (Or.inr ⟨by rfl, rfl⟩) ?_ ?_
          rotate_left
          ·simp only [Act.put, q1, q2, q3, i64_w, i32_w]
           rfl
          refine pure_ (i := 27) (N := some 61) (v := ?_) (a' := ?_) (bA 44 268435455) rfl rfl (an_ HT_.out) (fun _ _ _ h => h) (Or.inl ⟨by rfl, ?_⟩) ?_ ?_
          rotate_left
          ·intro w'
           go_simp
           with_reducible rfl
          rotate_left
          ·simp only [Act.put, q1, q2, q3, i64_w, i32_w]
           rfl
          refine pure_ (i := 28) (N := some 62) (v := ?_) (a' := ?_) (bA 44 536870911) rfl rfl (an_ HT_.out) (fun _ _ _ h => h) (Or.inl ⟨by rfl, ?_⟩) ?_ ?_
          rotate_left
          ·intro w'
           go_simp
           with_reducible rfl
          rotate_left
          ·simp only [Act.put, q1, q2, q3, i64_w, i32_w]
           rfl
          refine pure_ (i := 29) (N := some 63) (v := undef) (a' := ?_) (bA 44 1073741823) rfl rfl (an_ HT_.out) (fun _ _ _ h => h) (Or.inr ⟨by rfl, rfl⟩) ?_ ?_
          rotate_left
          ·simp only [Act.put, q1, q2, q3, i64_w, i32_w]
           rfl
          refine pure_ (i := 30) (N := some 64) (v := undef) (a' := ?_) (bA 44 2147483647) rfl rfl (an_ HT_.out) (fun _ _ _ h => h) (Or.inr ⟨by rfl, rfl⟩) ?_ ?_
          rotate_left
          ·simp only [Act.put, q1, q2, q3, i64_w, i32_w]
           rfl
          refine pure_ (i := 31) (N := some 65) (v := undef) (a' := ?_) (bA 44 4294967295) rfl rfl (an_ HT_.out) (fun _ _ _ h => h) (Or.inr ⟨by rfl, rfl⟩) ?_ ?_
          rotate_left
          ·simp only [Act.put, q1, q2, q3, i64_w, i32_w]
           rfl
          refine pure_ (i := 32) (N := some 66) (v := undef) (a' := ?_) (bA 44 8589934591) rfl rfl (an_ HT_.out) (fun _ _ _ h => h) (Or.inr ⟨by rfl, rfl⟩) ?_ ?_
          rotate_left
          ·simp only [Act.put, q1, q2, q3, i64_w, i32_w]
           rfl
          refine pure_ (i := 33) (N := some 67) (v := undef) (a' := ?_) (bA 44 17179869183) rfl rfl (an_ HT_.out) (fun _ _ _ h => h) (Or.inr ⟨by rfl, rfl⟩) ?_ ?_
          rotate_left
          ·simp only [Act.put, q1, q2, q3, i64_w, i32_w]
           rfl
          refine pure_ (i := 34) (N := some 68) (v := undef) (a' := ?_) (bA 44 34359738367) rfl rfl (an_ HT_.out) (fun _ _ _ h => h) (Or.inr ⟨by rfl, rfl⟩) ?_ ?_
          rotate_left
          ·simp only [Act.put, q1, q2, q3, i64_w, i32_w]
           rfl
          refine pure_ (i := 35) (N := some 69) (v := undef) (a' := ?_) (bA 44 68719476735) rfl rfl (an_ HT_.out) (fun _ _ _ h => h) (Or.inr ⟨by rfl, rfl⟩) ?_ ?_
          rotate_left
          ·simp only [Act.put, q1, q2, q3, i64_w, i32_w]
           rfl
          refine pure_ (i := 36) (N := some 70) (v := undef) (a' := ?_) (bA 44 137438953471) rfl rfl (an_ HT_.out) (fun _ _ _ h => h) (Or.inr ⟨by rfl, rfl⟩) ?_ ?_
          rotate_left
          ·simp only [Act.put, q1, q2, q3, i64_w, i32_w]
           rfl
          refine pure_ (i := 37) (N := some 71) (v := undef) (a' := ?_) (bA 44 274877906943) rfl rfl (an_ HT_.out) (fun _ _ _ h => h) (Or.inr ⟨by rfl, rfl⟩) ?_ ?_
          rotate_left
          ·simp only [Act.put, q1, q2, q3, i64_w, i32_w]
           rfl
          refine pure_ (i := 38) (N := some 72) (v := undef) (a' := ?_) (bA 44 549755813887) rfl rfl (an_ HT_.out) (fun _ _ _ h => h) (Or.inr ⟨by rfl, rfl⟩) ?_ ?_
          rotate_left
          ·simp only [Act.put, q1, q2, q3, i64_w, i32_w]
           rfl
          refine pure_ (i := 39) (N := some 73) (v := undef) (a' := ?_) (bA 44 1099511627775) rfl rfl (an_ HT_.out) (fun _ _ _ h => h) (Or.inr ⟨by rfl, rfl⟩) ?_ ?_
          rotate_left
          ·simp only [Act.put, q1, q2, q3, i64_w, i32_w]
           rfl
          refine pure_ (i := 40) (N := some 74) (v := undef) (a' := ?_) (bA 44 2199023255551) rfl rfl (an_ HT_.out) (fun _ _ _ h => h) (Or.inr ⟨by rfl, rfl⟩) ?_ ?_
          rotate_left
          ·simp only [Act.put, q1, q2, q3, i64_w, i32_w]
           rfl
          refine pure_ (i := 41) (N := some 75) (v := undef) (a' := ?_) (bA 44 4398046511103) rfl rfl (an_ HT_.out) (fun _ _ _ h => h) (Or.inr ⟨by rfl, rfl⟩) ?_ ?_
          rotate_left
          ·simp only [Act.put, q1, q2, q3, i64_w, i32_w]
           rfl
          refine pure_ (i := 42) (N := some 76) (v := undef) (a' := ?_) (bA 44 8796093022207) rfl rfl (an_ HT_.out) (fun _ _ _ h => h) (Or.inr ⟨by rfl, rfl⟩) ?_ ?_
          rotate_left
          ·simp only [Act.put, q1, q2, q3, i64_w, i32_w]
           rfl
          refine pure_ (i := 43) (N := some 77) (v := ?_) (a' := ?_) (bA 44 17592186044415) rfl rfl (an_ HT_.out) (fun _ _ _ h => h) (Or.inl ⟨by rfl, ?_⟩) ?_ ?_
          rotate_left
          ·intro w'
           go_simp
           with_reducible rfl
          rotate_left
          ·simp only [Act.put, q1, q2, q3, i64_w, i32_w]
           rfl
          refine done_ (done_of HT_.out (by kernel_rfl)) ?_
          try go_wp2
          go_ret
          exact ⟨by first | rfl | (simp [errW_none, errW_some] <;> rfl) | (simp [*, errW_none, errW_some] <;> rfl), by repeat (first | (with_reducible first | exact HB.out | apply below_alloc | apply pw_below_drewN | apply below_drew1 | refine below_set ?_ GE180.out | refine below_set ?_ GE181.out) | exact HB.out)⟩
        ·rw [if_neg c20] at H
         exact absurd H (by simp)
       ·rw [if_neg c19] at H
        exact absurd H (by simp)
      ·rw [if_neg c18] at H
       have c18b0 : decide (x5_2 < (l0_0.length : Int)) = false := decide_eq_false c18
       clear c18
       obtain rfl := Option.some.inj H
       have hnb39 := NB180_181.out
       have hnc39 := NB181_180.out
       have hcz40_0 : wr.cell? ⟨gb180, 0, none⟩ = some (.slice A0_0 l0_0.length c0_0) := (blk_cell BK180.out 0).trans rfl
       have hcz40_1 : wr.cell? ⟨gb180, 1, none⟩ = some (.int .i64 a0_1) := (blk_cell BK180.out 1).trans rfl
       have hcz40_2 : wr.cell? ⟨gb180, 2, none⟩ = some (.int .i64 a0_2) := (blk_cell BK180.out 2).trans rfl
       have hfz40_0 := blk_frozen BK180.out 0
       have hfz40_1 := blk_frozen BK180.out 1
       have hfz40_2 := blk_frozen BK180.out 2
       go_wp2
       go_ret
       exact ⟨by first | rfl | (simp [errW_none, errW_some] <;> rfl) | (simp [*, errW_none, errW_some] <;> rfl), by repeat (first | (with_reducible first | exact HB.out | apply below_alloc | apply pw_below_drewN | apply below_drew1 | refine below_set ?_ GE180.out | refine below_set ?_ GE181.out) | exact HB.out)⟩
end Go.Proofs.Ytkmjboeabmmecaa.MAll
