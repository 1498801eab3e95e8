/- The functions that the law reaches in plain Lean, and that the calls come to what these say. No condition. (By wip/myprint.py, this session's program over the kit's print.) -/
import Derived.Test.YtkmjboeabmmecaaMAllx0
import Derived.Test.YtkmjboeabmmecaaMAllx1
import Derived.Test.YtkmjboeabmmecaaMAllx4
import Derived.Test.YtkmjboeabmmecaaMAllx7
import Derived.Test.YtkmjboeabmmecaaMAllx8
import Derived.Test.YtkmjboeabmmecaaMAllhlaw06shown
import Derived.Test.YtkmjboeabmmecaaMAllhstoreGet
import Derived.Test.YtkmjboeabmmecaaMAllhstoreLive
import Derived.Test.YtkmjboeabmmecaaMAllhstoreMake
namespace Go.Proofs.Ytkmjboeabmmecaa.MAll
open Go.RowKit Go.Proofs.YtkmjboeabmmecaaW.PrintWords Go.Proofs.YtkmjboeabmmecaaW.PrintLast Go.Proofs.YtkmjboeabmmecaaW.PrintMore
attribute [local go_sem] max2_int min2_int max_two min_two max_three min_three max_four min_four   -- for this text's walks alone
set_option linter.unusedVariables false
set_option linter.unusedSimpArgs false

/-! ### mortmainlaw06_StoreMakes: function 5 -/
def mortmainlaw06_StoreMakes.j0 : Nat → Int → Int → Bool → List (S82) → Int → Int → Option (Bool)
 | 0, _, _, _, _, _, _ => none
 | k + 1, x1, x2, x21, x322000, x322001, x322002 => if x21 = true then ((mortmainlaw06_shown.f).bind fun t324 => (some t324)) else ((store_Live.f x322000 x322001 x322002).bind fun t325 => ((store_Make.f x322000 x322001 x322002 x1 x2).bind fun bt328 => ((store_Live.f bt328.1 bt328.2.1 bt328.2.2.1).bind fun t336 => (if bt328.2.2.2.2 = 0 then ((store_Get.f bt328.1 bt328.2.1 bt328.2.2.1 bt328.2.2.2.1).bind fun bt339 => (if (t336.length : Int) = (wrap64 ((t325.length : Int) + 1)) then (if 0 ≤ (t325.length : Int) then (if (t325.length : Int) < (t336.length : Int) then (if (rd t336 (t325.length : Int)) = bt328.2.2.2.1 then (if (t325.length : Int) ≤ (t336.length : Int) then ((mortmainref02_Ints.f k (t336.take ((t325.length : Int) : Int).toNat) t325).bind fun t355 => (if t355 = true then (if bt339.2.2.2.2.2.2 = 0 then (if bt339.1 = (wrap64 (x322002 + 1)) then (if bt328.2.2.1 = bt339.1 then (if (bt339.2.2.2.2.2.1.length : Int) = x1 then (some (bt339.2.1 == 0)) else (none)) else (none)) else (none)) else (none)) else (none))) else (none)) else (none)) else (none)) else (none)) else (none))) else (if bt328.2.2.2.1 = 0 then ((mortmainlaw06_its.f k bt328.1 bt328.2.1 bt328.2.2.1).bind fun bt356 => ((mortmainlaw06_its.f k x322000 x322001 x322002).bind fun bt361 => ((mortmainref06_Same.f k bt356.1 bt356.2.1 bt356.2.2 bt361.1 bt361.2.1 bt361.2.2).bind fun t366 => (some t366)))) else (none))))))
def mortmainlaw06_StoreMakes.f (k : Nat) (l0_0 : List (S82)) (a0_1 : Int) (a0_2 : Int) (a1 : Int) (a2 : Int) : Option (Bool) := (mortmainlaw06_right.f k l0_0 a0_1 a0_2).bind fun t322 => (if t322 = true then ((mortmainlaw06_shown.f).bind fun t323 => (mortmainlaw06_StoreMakes.j0 k a1 a2 (!t323) l0_0 a0_1 a0_2)) else (mortmainlaw06_StoreMakes.j0 k a1 a2 true l0_0 a0_1 a0_2))
theorem mortmainlaw06_StoreMakes.mono_l : ∀ k, (∀ y0 y1 y2 y3 y4 y5, LeO (mortmainlaw06_StoreMakes.j0 k y0 y1 y2 y3 y4 y5) (mortmainlaw06_StoreMakes.j0 (k + 1) y0 y1 y2 y3 y4 y5))
 | 0 => fun _ _ _ _ _ _ r h => by simp [mortmainlaw06_StoreMakes.j0] at h
 | k + 1 => by
  have ih0 := mortmainlaw06_StoreMakes.mono_l k
  ·intro y0 y1 y2 y3 y4 y5
   unfold mortmainlaw06_StoreMakes.j0
   repeat' first
   | (with_reducible exact ih0 _ _ _ _ _ _)
   | (with_reducible exact mortmainlaw06_its.mono _ _ _ _)
   | (with_reducible exact mortmainlaw06_right.mono _ _ _ _)
   | (with_reducible exact mortmainref02_Ints.mono _ _ _)
   | (with_reducible exact mortmainref06_Same.mono _ _ _ _ _ _ _)
   | (with_reducible exact LeO.refl _)
   | (with_reducible exact LeO.none _)
   | (with_reducible refine LeO.ite ?_ ?_)
   | (with_reducible refine LeO.bind ?_ (fun _ => ?_))
   | exact ih0 _ _ _ _ _ _
   | exact mortmainlaw06_its.mono _ _ _ _
   | exact mortmainlaw06_right.mono _ _ _ _
   | exact mortmainref02_Ints.mono _ _ _
   | exact mortmainref06_Same.mono _ _ _ _ _ _ _
   | exact LeO.none _
   | refine LeO.ite ?_ ?_
   | refine LeO.bind ?_ (fun _ => ?_)
theorem mortmainlaw06_StoreMakes.mono : ∀ a0 a1 a2 a3 a4 k, LeO (mortmainlaw06_StoreMakes.f k a0 a1 a2 a3 a4) (mortmainlaw06_StoreMakes.f (k + 1) a0 a1 a2 a3 a4) := by
 intro a0 a1 a2 a3 a4 k
 have ih0 := mortmainlaw06_StoreMakes.mono_l k
 unfold mortmainlaw06_StoreMakes.f
 repeat' first
   | (with_reducible exact ih0 _ _ _ _ _ _)
   | (with_reducible exact mortmainlaw06_its.mono _ _ _ _)
   | (with_reducible exact mortmainlaw06_right.mono _ _ _ _)
   | (with_reducible exact mortmainref02_Ints.mono _ _ _)
   | (with_reducible exact mortmainref06_Same.mono _ _ _ _ _ _ _)
   | (with_reducible exact LeO.refl _)
   | (with_reducible exact LeO.none _)
   | (with_reducible refine LeO.ite ?_ ?_)
   | (with_reducible refine LeO.bind ?_ (fun _ => ?_))
   | exact ih0 _ _ _ _ _ _
   | exact mortmainlaw06_its.mono _ _ _ _
   | exact mortmainlaw06_right.mono _ _ _ _
   | exact mortmainref02_Ints.mono _ _ _
   | exact mortmainref06_Same.mono _ _ _ _ _ _ _
   | exact LeO.none _
   | refine LeO.ite ?_ ?_
   | refine LeO.bind ?_ (fun _ => ?_)
def mortmainlaw06_StoreMakes.T7 : Bool × List (List Nat × List Nat) := (true, [([], []), ([0], [0]), ([1], [1]), ([2], [2]), ([3, 2, 2], [2, 3]), ([2], [2]), ([5, 4, 2], [2, 5]), ([4, 6, 6, 2], [2, 4, 6]), ([2, 7], [2, 7]), ([8, 7, 0, 1, 2, 3, 4, 5, 6, 7, 8], [8])])
def mortmainlaw06_StoreMakes.B7 : List Nat := [0, 1, 3, 7, 15, 7, 63, 127, 255, 511]
theorem mortmainlaw06_StoreMakes.tab7 : rtab .any (opsOf Try.f5 7) = mortmainlaw06_StoreMakes.T7 := by kernel_rfl
theorem mortmainlaw06_StoreMakes.bits7 : waitsOk mortmainlaw06_StoreMakes.T7.2 mortmainlaw06_StoreMakes.B7 = true := by kernel_rfl
set_option maxHeartbeats 8000000 in
set_option maxRecDepth 100000 in
theorem mortmainlaw06_StoreMakes.calls (k : Nat) (A0_0 : Option Addr) (c0_0 : Nat) (l0_0 : List (S82)) (a0_1 : Int) (a0_2 : Int) (a1 : Int) (a2 : Int) (r : Bool) (w : World) (hr0_0 : Kd.C k82 w A0_0 l0_0.length l0_0) (hc0_0 : l0_0.length ≤ c0_0) (h : mortmainlaw06_StoreMakes.f k l0_0 a0_1 a0_2 a1 a2 = some r) :
  Calls Try.prog 5 #[.agg #[.slice A0_0 l0_0.length c0_0, .int .i64 a0_1, .int .i64 a0_2], .int .i64 a1, .int .i64 a2] w fun e w' => e = .returned (.bool r) ∧ Below w.heap.size w w' := by
 have hu26 := Try.underlying26
 have hu29 := Try.underlying29
 have HR0_0 := Aside0.mk hr0_0
 have HC0_0 := Aside0.mk hc0_0
 clear hr0_0 hc0_0
 have HB := Aside0.mk (Below.refl w.heap.size w)
 have H : ((mortmainlaw06_right.f k l0_0 a0_1 a0_2).bind fun t322 => (if t322 = true then ((mortmainlaw06_shown.f).bind fun t323 => (mortmainlaw06_StoreMakes.j0 k a1 a2 (!t323) l0_0 a0_1 a0_2)) else (mortmainlaw06_StoreMakes.j0 k a1 a2 true l0_0 a0_1 a0_2))) = some r := h
 clear h
 have HC4 := Aside0.mk H
 clear H
 go_enter Try.func5, Try.ntmps5
 go_upto_region 1 with (first | ((with_reducible refine gate_dst (N := 3) rfl ?_); (try (refine gate_guard (by rfl) ?_; dsimp only)); refine box_event ?hg (N := 3) ?hd (cs := #[.slice A0_0 l0_0.length c0_0, .int .i64 a0_1, .int .i64 a0_2]) (t := 26) ?hr ?_; (case hd => rfl); (case hg => rfl); (case hr => first | (go_simp; done) | (go_simp; rfl)); intro gb321 hg w5 hbox hb; have n0_ := Aside0.mk (below_step (by repeat (first | (with_reducible first | exact HB.out | apply below_alloc | apply pw_below_drewN | apply below_drew1) | exact HB.out)) hb); have n1_ := Aside0.mk (hbox); have n2_ := Aside0.mk ((by rw [hg]; exact (below_size (by repeat (first | (with_reducible first | exact HB.out | apply below_alloc | apply pw_below_drewN | apply below_drew1) | exact HB.out))) : w.heap.size ≤ gb321)); have n3_ := Aside0.mk ((by rw [hg]; exact (below_size (by repeat (first | (with_reducible first | exact HB.out | apply below_alloc | apply pw_below_drewN | apply below_drew1) | exact HB.out))) : w.heap.size ≤ gb321)); clear HB; have HB := n0_; have BK321 := n1_; have GW321 := n2_; have GE321 := n3_; clear n0_ n1_ n2_ n3_; clear hb hbox hg))
 (try simp only [Act.put, List.setIfInBounds_toArray, List.set_cons_zero, List.set_cons_succ])
 go_cut [21] (fun v21 wc => ∃ (kq : Nat) (x21_3 : Bool), v21 = .bool x21_3 ∧ Aside0 (mortmainlaw06_StoreMakes.j0 kq a1 a2 x21_3 l0_0 a0_1 a0_2 = some r) ∧ Aside0 (kq ≤ k) ∧ Aside0 (wc.heap[gb321]? = some (.cells #[(.slice A0_0 l0_0.length c0_0), .int .i64 a0_1, .int .i64 a0_2] 26 (0, 0))) ∧ Aside0 (Below w.heap.size w wc))
 case first =>
  have H := HC4.out
  clear HC4
  replace H := Option.bind_eq_some_iff.mp H
  obtain ⟨t322, A60, H⟩ := H
  replace H : (if t322 = true then ((mortmainlaw06_shown.f).bind fun t323 => (mortmainlaw06_StoreMakes.j0 k a1 a2 (!t323) l0_0 a0_1 a0_2)) else (mortmainlaw06_StoreMakes.j0 k a1 a2 true l0_0 a0_1 a0_2)) = some r := H
  have A6 := Aside0.mk A60
  clear A60
  by_cases c7 : t322 = true
  ·subst c7
   have H1 : ((mortmainlaw06_shown.f).bind fun t323 => (mortmainlaw06_StoreMakes.j0 k a1 a2 (!t323) l0_0 a0_1 a0_2)) = some r := by rw [if_pos rfl] at H; exact H
   clear H
   have H := H1
   clear H1
   replace H := Option.bind_eq_some_iff.mp H
   obtain ⟨t323, A80, H⟩ := H
   replace H : (mortmainlaw06_StoreMakes.j0 k a1 a2 (!t323) l0_0 a0_1 a0_2) = some r := H
   have A8 := Aside0.mk A80
   clear A80
   have H' := Aside0.mk H
   clear H
   have hcz9_0 : w5.cell? ⟨gb321, 0, none⟩ = some (.slice A0_0 l0_0.length c0_0) := (blk_cell BK321.out 0).trans rfl
   have hcz9_1 : w5.cell? ⟨gb321, 1, none⟩ = some (.int .i64 a0_1) := (blk_cell BK321.out 1).trans rfl
   have hcz9_2 : w5.cell? ⟨gb321, 2, none⟩ = some (.int .i64 a0_2) := (blk_cell BK321.out 2).trans rfl
   have hfz9_0 := blk_frozen BK321.out 0
   have hfz9_1 := blk_frozen BK321.out 1
   have hfz9_2 := blk_frozen BK321.out 2
   go_wp2_with (first | ((with_reducible refine gate_callee (f := 15) rfl ?_); refine goesL_ (some 16) rfl rfl Try.func15 (by kernel_rfl) rfl #[.agg #[.slice A0_0 l0_0.length c0_0, .int .i64 a0_1, .int .i64 a0_2]] rfl (by (try simp only [List.map_toArray, List.map_cons, List.map_nil]); first | done | rfl | (simp only [List.length_drop, List.length_take]; rfl)) ?_; (with_reducible refine (mortmainlaw06_right.calls k _ _ l0_0 a0_1 a0_2 true _ ?side1 ?side2 A6.out).mono ?_); (case side1 => repeat (first | exact (Kd.C_below HR0_0.out HB.out) | (with_reducible refine Kd.C_alloc ?_ _) | (with_reducible refine Kd.C_drewN ?_ _) | (with_reducible refine Kd.C_drew ?_))); (case side2 => exact HC0_0.out); rintro e w10 ⟨rfl, hb⟩; refine ⟨_, rfl, ?_⟩; have n0_ := Aside0.mk (blk_below (g := gb321) (o := .cells #[.slice A0_0 l0_0.length c0_0, .int .i64 a0_1, .int .i64 a0_2] 26 (0, 0)) (by (with_reducible repeat (first | refine blk_drewN ?_ _ | refine blk_drew ?_ | refine blk_alloc ?_ _)); exact BK321.out) hb); have n1_ := Aside0.mk (below_step (by repeat (first | (with_reducible first | exact HB.out | apply below_alloc | apply pw_below_drewN | apply below_drew1 | refine below_set ?_ GE321.out) | exact HB.out)) hb); clear BK321; clear HB; have BK321 := n0_; have HB := n1_; clear n0_ n1_; (try clear hb); (try clear hb2); (try clear hk); (try clear hi)) | (go_at_call 16; (with_reducible refine (mortmainlaw06_shown.calls  t323 _ A8.out).mono ?_); rintro e w11 ⟨rfl, hb⟩; have n0_ := Aside0.mk (blk_below (g := gb321) (o := .cells #[.slice A0_0 l0_0.length c0_0, .int .i64 a0_1, .int .i64 a0_2] 26 (0, 0)) (by (with_reducible repeat (first | refine blk_drewN ?_ _ | refine blk_drew ?_ | refine blk_alloc ?_ _)); exact BK321.out) hb); have n1_ := Aside0.mk (below_step (by repeat (first | (with_reducible first | exact HB.out | apply below_alloc | apply pw_below_drewN | apply below_drew1 | refine below_set ?_ GE321.out) | exact HB.out)) hb); clear BK321; clear HB; have BK321 := n0_; have HB := n1_; clear n0_ n1_; (try clear hb); (try clear hb2); (try clear hk); (try clear hi)))
   go_meet
   case rel => exact ⟨_, (!t323), (by first | rfl | (simp; done) | (simp [*]; done)), H', ⟨by first | omega | exact Nat.le_refl _⟩, ⟨by (with_reducible repeat (first | refine blk_drewN ?_ _ | refine blk_drew ?_ | refine blk_alloc ?_ _)); exact BK321.out⟩, ⟨by repeat (first | (with_reducible first | exact HB.out | apply below_alloc | apply pw_below_drewN | apply below_drew1 | refine below_set ?_ GE321.out) | exact HB.out)⟩⟩
  ·replace c7 := Bool.eq_false_iff.mpr c7
   subst c7
   have H1 : (mortmainlaw06_StoreMakes.j0 k a1 a2 true l0_0 a0_1 a0_2) = some r := by rw [if_neg (show ¬ (false = true) by decide)] at H; exact H
   clear H
   have H := H1
   clear H1
   have H' := Aside0.mk H
   clear H
   have hcz12_0 : w5.cell? ⟨gb321, 0, none⟩ = some (.slice A0_0 l0_0.length c0_0) := (blk_cell BK321.out 0).trans rfl
   have hcz12_1 : w5.cell? ⟨gb321, 1, none⟩ = some (.int .i64 a0_1) := (blk_cell BK321.out 1).trans rfl
   have hcz12_2 : w5.cell? ⟨gb321, 2, none⟩ = some (.int .i64 a0_2) := (blk_cell BK321.out 2).trans rfl
   have hfz12_0 := blk_frozen BK321.out 0
   have hfz12_1 := blk_frozen BK321.out 1
   have hfz12_2 := blk_frozen BK321.out 2
   go_wp2_with (first | ((with_reducible refine gate_callee (f := 15) rfl ?_); refine goesL_ (some 16) rfl rfl Try.func15 (by kernel_rfl) rfl #[.agg #[.slice A0_0 l0_0.length c0_0, .int .i64 a0_1, .int .i64 a0_2]] rfl (by (try simp only [List.map_toArray, List.map_cons, List.map_nil]); first | done | rfl | (simp only [List.length_drop, List.length_take]; rfl)) ?_; (with_reducible refine (mortmainlaw06_right.calls k _ _ l0_0 a0_1 a0_2 false _ ?side1 ?side2 A6.out).mono ?_); (case side1 => repeat (first | exact (Kd.C_below HR0_0.out HB.out) | (with_reducible refine Kd.C_alloc ?_ _) | (with_reducible refine Kd.C_drewN ?_ _) | (with_reducible refine Kd.C_drew ?_))); (case side2 => exact HC0_0.out); rintro e w13 ⟨rfl, hb⟩; refine ⟨_, rfl, ?_⟩; have n0_ := Aside0.mk (blk_below (g := gb321) (o := .cells #[.slice A0_0 l0_0.length c0_0, .int .i64 a0_1, .int .i64 a0_2] 26 (0, 0)) (by (with_reducible repeat (first | refine blk_drewN ?_ _ | refine blk_drew ?_ | refine blk_alloc ?_ _)); exact BK321.out) hb); have n1_ := Aside0.mk (below_step (by repeat (first | (with_reducible first | exact HB.out | apply below_alloc | apply pw_below_drewN | apply below_drew1 | refine below_set ?_ GE321.out) | exact HB.out)) hb); clear BK321; clear HB; have BK321 := n0_; have HB := n1_; clear n0_ n1_; (try clear hb); (try clear hb2); (try clear hk); (try clear hi)))
   go_meet
   case rel => exact ⟨_, (true), (by first | rfl | (simp; done) | (simp [*]; done)), H', ⟨by first | omega | exact Nat.le_refl _⟩, ⟨by (with_reducible repeat (first | refine blk_drewN ?_ _ | refine blk_drew ?_ | refine blk_alloc ?_ _)); exact BK321.out⟩, ⟨by repeat (first | (with_reducible first | exact HB.out | apply below_alloc | apply pw_below_drewN | apply below_drew1 | refine below_set ?_ GE321.out) | exact HB.out)⟩⟩
 case rest =>
  clear HC4
  try clear c1
  try clear p2
  try clear c5
  try clear c7
  try clear hcz12_0
  try clear hcz12_1
  try clear hcz12_2
  try clear hcz9_0
  try clear hcz9_1
  try clear hcz9_2
  try clear hfz12_0
  try clear hfz12_1
  try clear hfz12_2
  try clear hfz9_0
  try clear hfz9_1
  try clear hfz9_2
  obtain ⟨kq, x21_3, rfl, HA, HJ3, BK321, HB⟩ := hcut
  cases kq with
  | zero => exact absurd HA.out (by simp [mortmainlaw06_StoreMakes.j0])
  | succ kj3 =>
   have H := HA.out
   clear HA
   simp only [mortmainlaw06_StoreMakes.j0] at H
   by_cases c14 : x21_3 = true
   ·subst c14
    have H1 : ((mortmainlaw06_shown.f).bind fun t324 => (some t324)) = some r := by rw [if_pos rfl] at H; exact H
    clear H
    have H := H1
    clear H1
    replace H := Option.bind_eq_some_iff.mp H
    obtain ⟨t324, A150, H⟩ := H
    replace H : (some t324) = some r := H
    have A15 := Aside0.mk A150
    clear A150
    obtain rfl := Option.some.inj H
    go_wp2_with (first | ((with_reducible refine gate_callee (f := 16) rfl ?_); refine goesL_ (some 22) rfl rfl Try.func16 (by kernel_rfl) rfl #[] rfl (by (try simp only [List.map_toArray, List.map_cons, List.map_nil]); first | done | rfl | (simp only [List.length_drop, List.length_take]; rfl)) ?_; (with_reducible refine (mortmainlaw06_shown.calls  t324 _ A15.out).mono ?_); rintro e w16 ⟨rfl, hb⟩; refine ⟨_, rfl, ?_⟩; have n0_ := Aside0.mk (blk_below (g := gb321) (o := .cells #[.slice A0_0 l0_0.length c0_0, .int .i64 a0_1, .int .i64 a0_2] 26 (0, 0)) (by (with_reducible repeat (first | refine blk_drewN ?_ _ | refine blk_drew ?_ | refine blk_alloc ?_ _)); exact BK321.out) hb); have n1_ := Aside0.mk (below_step (by repeat (first | (with_reducible first | exact HB.out | apply below_alloc | apply pw_below_drewN | apply below_drew1 | refine below_set ?_ GE321.out) | exact HB.out)) hb); clear BK321; clear HB; have BK321 := n0_; have HB := n1_; clear n0_ n1_; (try clear hb); (try clear hb2); (try clear hk); (try clear hi)))
    go_ret
    exact ⟨by first | rfl | (simp [errW_none, errW_some] <;> rfl) | (simp [*, errW_none, errW_some] <;> rfl), by repeat (first | (with_reducible first | exact HB.out | apply below_alloc | apply pw_below_drewN | apply below_drew1 | refine below_set ?_ GE321.out) | exact HB.out)⟩
   ·replace c14 := Bool.eq_false_iff.mpr c14
    subst c14
    have H1 : ((store_Live.f l0_0 a0_1 a0_2).bind fun t325 => ((store_Make.f l0_0 a0_1 a0_2 a1 a2).bind fun bt328 => ((store_Live.f bt328.1 bt328.2.1 bt328.2.2.1).bind fun t336 => (if bt328.2.2.2.2 = 0 then ((store_Get.f bt328.1 bt328.2.1 bt328.2.2.1 bt328.2.2.2.1).bind fun bt339 => (if (t336.length : Int) = (wrap64 ((t325.length : Int) + 1)) then (if 0 ≤ (t325.length : Int) then (if (t325.length : Int) < (t336.length : Int) then (if (rd t336 (t325.length : Int)) = bt328.2.2.2.1 then (if (t325.length : Int) ≤ (t336.length : Int) then ((mortmainref02_Ints.f kj3 (t336.take ((t325.length : Int) : Int).toNat) t325).bind fun t355 => (if t355 = true then (if bt339.2.2.2.2.2.2 = 0 then (if bt339.1 = (wrap64 (a0_2 + 1)) then (if bt328.2.2.1 = bt339.1 then (if (bt339.2.2.2.2.2.1.length : Int) = a1 then (some (bt339.2.1 == 0)) else (none)) else (none)) else (none)) else (none)) else (none))) else (none)) else (none)) else (none)) else (none)) else (none))) else (if bt328.2.2.2.1 = 0 then ((mortmainlaw06_its.f kj3 bt328.1 bt328.2.1 bt328.2.2.1).bind fun bt356 => ((mortmainlaw06_its.f kj3 l0_0 a0_1 a0_2).bind fun bt361 => ((mortmainref06_Same.f kj3 bt356.1 bt356.2.1 bt356.2.2 bt361.1 bt361.2.1 bt361.2.2).bind fun t366 => (some t366)))) else (none)))))) = some r := by rw [if_neg (show ¬ (false = true) by decide)] at H; exact H
    clear H
    have H := H1
    clear H1
    replace H := Option.bind_eq_some_iff.mp H
    obtain ⟨t325, A170, H⟩ := H
    replace H : ((store_Make.f l0_0 a0_1 a0_2 a1 a2).bind fun bt328 => ((store_Live.f bt328.1 bt328.2.1 bt328.2.2.1).bind fun t336 => (if bt328.2.2.2.2 = 0 then ((store_Get.f bt328.1 bt328.2.1 bt328.2.2.1 bt328.2.2.2.1).bind fun bt339 => (if (t336.length : Int) = (wrap64 ((t325.length : Int) + 1)) then (if 0 ≤ (t325.length : Int) then (if (t325.length : Int) < (t336.length : Int) then (if (rd t336 (t325.length : Int)) = bt328.2.2.2.1 then (if (t325.length : Int) ≤ (t336.length : Int) then ((mortmainref02_Ints.f kj3 (t336.take ((t325.length : Int) : Int).toNat) t325).bind fun t355 => (if t355 = true then (if bt339.2.2.2.2.2.2 = 0 then (if bt339.1 = (wrap64 (a0_2 + 1)) then (if bt328.2.2.1 = bt339.1 then (if (bt339.2.2.2.2.2.1.length : Int) = a1 then (some (bt339.2.1 == 0)) else (none)) else (none)) else (none)) else (none)) else (none))) else (none)) else (none)) else (none)) else (none)) else (none))) else (if bt328.2.2.2.1 = 0 then ((mortmainlaw06_its.f kj3 bt328.1 bt328.2.1 bt328.2.2.1).bind fun bt356 => ((mortmainlaw06_its.f kj3 l0_0 a0_1 a0_2).bind fun bt361 => ((mortmainref06_Same.f kj3 bt356.1 bt356.2.1 bt356.2.2 bt361.1 bt361.2.1 bt361.2.2).bind fun t366 => (some t366)))) else (none))))) = some r := H
    have A17 := Aside0.mk A170
    clear A170
    replace H := Option.bind_eq_some_iff.mp H
    obtain ⟨⟨t328, t331, t332, t333, t334⟩, A180, H⟩ := H
    replace H : ((store_Live.f t328 t331 t332).bind fun t336 => (if t334 = 0 then ((store_Get.f t328 t331 t332 t333).bind fun bt339 => (if (t336.length : Int) = (wrap64 ((t325.length : Int) + 1)) then (if 0 ≤ (t325.length : Int) then (if (t325.length : Int) < (t336.length : Int) then (if (rd t336 (t325.length : Int)) = t333 then (if (t325.length : Int) ≤ (t336.length : Int) then ((mortmainref02_Ints.f kj3 (t336.take ((t325.length : Int) : Int).toNat) t325).bind fun t355 => (if t355 = true then (if bt339.2.2.2.2.2.2 = 0 then (if bt339.1 = (wrap64 (a0_2 + 1)) then (if t332 = bt339.1 then (if (bt339.2.2.2.2.2.1.length : Int) = a1 then (some (bt339.2.1 == 0)) else (none)) else (none)) else (none)) else (none)) else (none))) else (none)) else (none)) else (none)) else (none)) else (none))) else (if t333 = 0 then ((mortmainlaw06_its.f kj3 t328 t331 t332).bind fun bt356 => ((mortmainlaw06_its.f kj3 l0_0 a0_1 a0_2).bind fun bt361 => ((mortmainref06_Same.f kj3 bt356.1 bt356.2.1 bt356.2.2 bt361.1 bt361.2.1 bt361.2.2).bind fun t366 => (some t366)))) else (none)))) = some r := H
    have A18 := Aside0.mk A180
    clear A180
    replace H := Option.bind_eq_some_iff.mp H
    obtain ⟨t336, A190, H⟩ := H
    replace H : (if t334 = 0 then ((store_Get.f t328 t331 t332 t333).bind fun bt339 => (if (t336.length : Int) = (wrap64 ((t325.length : Int) + 1)) then (if 0 ≤ (t325.length : Int) then (if (t325.length : Int) < (t336.length : Int) then (if (rd t336 (t325.length : Int)) = t333 then (if (t325.length : Int) ≤ (t336.length : Int) then ((mortmainref02_Ints.f kj3 (t336.take ((t325.length : Int) : Int).toNat) t325).bind fun t355 => (if t355 = true then (if bt339.2.2.2.2.2.2 = 0 then (if bt339.1 = (wrap64 (a0_2 + 1)) then (if t332 = bt339.1 then (if (bt339.2.2.2.2.2.1.length : Int) = a1 then (some (bt339.2.1 == 0)) else (none)) else (none)) else (none)) else (none)) else (none))) else (none)) else (none)) else (none)) else (none)) else (none))) else (if t333 = 0 then ((mortmainlaw06_its.f kj3 t328 t331 t332).bind fun bt356 => ((mortmainlaw06_its.f kj3 l0_0 a0_1 a0_2).bind fun bt361 => ((mortmainref06_Same.f kj3 bt356.1 bt356.2.1 bt356.2.2 bt361.1 bt361.2.1 bt361.2.2).bind fun t366 => (some t366)))) else (none))) = some r := H
    have A19 := Aside0.mk A190
    clear A190
    by_cases c20 : t334 = 0
    ·rw [if_pos c20] at H
     have c20b0 : (t334 == 0) = true := beq_iff_eq.mpr c20
     have c20b1 : (t334 != 0) = false := bne_eq_false_iff_eq.mpr c20
     clear c20
     replace H := Option.bind_eq_some_iff.mp H
     obtain ⟨⟨t339, t340, t341, t342, t343, t344, t347⟩, A210, H⟩ := H
     replace H : (if (t336.length : Int) = (wrap64 ((t325.length : Int) + 1)) then (if 0 ≤ (t325.length : Int) then (if (t325.length : Int) < (t336.length : Int) then (if (rd t336 (t325.length : Int)) = t333 then (if (t325.length : Int) ≤ (t336.length : Int) then ((mortmainref02_Ints.f kj3 (t336.take ((t325.length : Int) : Int).toNat) t325).bind fun t355 => (if t355 = true then (if t347 = 0 then (if t339 = (wrap64 (a0_2 + 1)) then (if t332 = t339 then (if (t344.length : Int) = a1 then (some (t340 == 0)) else (none)) else (none)) else (none)) else (none)) else (none))) else (none)) else (none)) else (none)) else (none)) else (none)) = some r := H
     have A21 := Aside0.mk A210
     clear A210
     by_cases c22 : (t336.length : Int) = (wrap64 ((t325.length : Int) + 1))
     ·rw [if_pos c22] at H
      have c22b0 : ((t336.length : Int) == (wrap64 ((t325.length : Int) + 1))) = true := beq_iff_eq.mpr c22
      have c22b1 : ((t336.length : Int) != (wrap64 ((t325.length : Int) + 1))) = false := bne_eq_false_iff_eq.mpr c22
      clear c22
      by_cases c23 : 0 ≤ (t325.length : Int)
      ·rw [if_pos c23] at H
       have c23b0 : decide (0 ≤ (t325.length : Int)) = true := decide_eq_true c23
       have c23b1 : decide (0 ≤ t325.length) = true := decide_eq_true (by omega)
       clear c23
       by_cases c24 : (t325.length : Int) < (t336.length : Int)
       ·rw [if_pos c24] at H
        have c24b0 : decide ((t325.length : Int) < (t336.length : Int)) = true := decide_eq_true c24
        have c24b1 : decide (t325.length < t336.length) = true := decide_eq_true (Int.ofNat_lt.mp c24)
        clear c24
        by_cases c25 : (rd t336 (t325.length : Int)) = t333
        ·rw [if_pos c25] at H
         have c25b0 : ((rd t336 (t325.length : Int)) == t333) = true := beq_iff_eq.mpr c25
         have c25b1 : ((rd t336 (t325.length : Int)) != t333) = false := bne_eq_false_iff_eq.mpr c25
         clear c25
         have c26b0 := eq_true (of_decide_eq_true (by first | (with_reducible assumption) | assumption) : 0 ≤ (t325.length : Int))
         by_cases c27 : (t325.length : Int) ≤ (t336.length : Int)
         ·rw [if_pos c27] at H
          have c27b0 := eq_true c27
          have c27b1 : decide ((t325.length : Int) ≤ (t336.length : Int)) = true := decide_eq_true c27
          clear c27
          obtain ⟨y350, hy350⟩ : ∃ y_ : List Int, y_ = (t336.take ((t325.length : Int) : Int).toNat) := ⟨_, rfl⟩
          replace H : ((mortmainref02_Ints.f kj3 y350 t325).bind fun t355 => (if t355 = true then (if t347 = 0 then (if t339 = (wrap64 (a0_2 + 1)) then (if t332 = t339 then (if (t344.length : Int) = a1 then (some (t340 == 0)) else (none)) else (none)) else (none)) else (none)) else (none))) = some r := by first | (rw [hy350]; with_reducible exact H) | (have H2_ := (Option.bind_some _ _).symm.trans H; rw [hy350]; with_reducible exact H2_) | (have H2_ := (Option.bind_some _ _).symm.trans H; with_reducible exact H2_) | with_reducible exact H | (rw [hy350]; exact H) | exact H
          have Ny350 := Aside0.mk hy350
          clear hy350
          replace H := Option.bind_eq_some_iff.mp H
          obtain ⟨t355, A280, H⟩ := H
          replace H : (if t355 = true then (if t347 = 0 then (if t339 = (wrap64 (a0_2 + 1)) then (if t332 = t339 then (if (t344.length : Int) = a1 then (some (t340 == 0)) else (none)) else (none)) else (none)) else (none)) else (none)) = some r := H
          have A28 := Aside0.mk A280
          clear A280
          by_cases c29 : t355 = true
          ·subst c29
           have H1 : (if t347 = 0 then (if t339 = (wrap64 (a0_2 + 1)) then (if t332 = t339 then (if (t344.length : Int) = a1 then (some (t340 == 0)) else (none)) else (none)) else (none)) else (none)) = some r := by rw [if_pos rfl] at H; exact H
           clear H
           have H := H1
           clear H1
           by_cases c30 : t347 = 0
           ·rw [if_pos c30] at H
            have c30b0 : (t347 == 0) = true := beq_iff_eq.mpr c30
            have c30b1 : (t347 != 0) = false := bne_eq_false_iff_eq.mpr c30
            clear c30
            by_cases c31 : t339 = (wrap64 (a0_2 + 1))
            ·rw [if_pos c31] at H
             have c31b0 : (t339 == (wrap64 (a0_2 + 1))) = true := beq_iff_eq.mpr c31
             have c31b1 : (t339 != (wrap64 (a0_2 + 1))) = false := bne_eq_false_iff_eq.mpr c31
             clear c31
             by_cases c32 : t332 = t339
             ·rw [if_pos c32] at H
              have c32b0 : (t332 == t339) = true := beq_iff_eq.mpr c32
              have c32b1 : (t332 != t339) = false := bne_eq_false_iff_eq.mpr c32
              clear c32
              by_cases c33 : (t344.length : Int) = a1
              ·rw [if_pos c33] at H
               have c33b0 : ((t344.length : Int) == a1) = true := beq_iff_eq.mpr c33
               have c33b1 : ((t344.length : Int) != a1) = false := bne_eq_false_iff_eq.mpr c33
               clear c33
               obtain rfl := Option.some.inj H
               have hcz34_0 : wc.cell? ⟨gb321, 0, none⟩ = some (.slice A0_0 l0_0.length c0_0) := (blk_cell BK321.out 0).trans rfl
               have hcz34_1 : wc.cell? ⟨gb321, 1, none⟩ = some (.int .i64 a0_1) := (blk_cell BK321.out 1).trans rfl
               have hcz34_2 : wc.cell? ⟨gb321, 2, none⟩ = some (.int .i64 a0_2) := (blk_cell BK321.out 2).trans rfl
               have hfz34_0 := blk_frozen BK321.out 0
               have hfz34_1 := blk_frozen BK321.out 1
               have hfz34_2 := blk_frozen BK321.out 2
               go_wp2_with (first | ((with_reducible refine gate_callee (f := 29) rfl ?_); refine goesL_ (some 24) rfl rfl Try.func29 (by kernel_rfl) rfl #[.agg #[.slice A0_0 l0_0.length c0_0, .int .i64 a0_1, .int .i64 a0_2]] rfl (by (try simp only [List.map_toArray, List.map_cons, List.map_nil]); first | done | rfl | (simp only [List.length_drop, List.length_take]; rfl)) ?_; (with_reducible refine (store_Live.calls _ _ l0_0 a0_1 a0_2 t325 _ ?side1 ?side2 A17.out).mono ?_); (case side1 => repeat (first | exact (Kd.C_below HR0_0.out HB.out) | (with_reducible refine Kd.C_alloc ?_ _) | (with_reducible refine Kd.C_drewN ?_ _) | (with_reducible refine Kd.C_drew ?_))); (case side2 => exact HC0_0.out); rintro e w35 ⟨v326, rfl, ho0, hb⟩; refine ⟨_, rfl, ?_⟩; have n0_ := Aside0.mk (Kd.R_lower ho0 (below_size (by repeat (first | (with_reducible first | exact HB.out | apply below_alloc | apply pw_below_drewN | apply below_drew1 | refine below_set ?_ GE321.out) | exact HB.out)))); have n1_ := Aside0.mk (blk_below (g := gb321) (o := .cells #[.slice A0_0 l0_0.length c0_0, .int .i64 a0_1, .int .i64 a0_2] 26 (0, 0)) (by (with_reducible repeat (first | refine blk_drewN ?_ _ | refine blk_drew ?_ | refine blk_alloc ?_ _)); exact BK321.out) hb); have n2_ := Aside0.mk (below_step (by repeat (first | (with_reducible first | exact HB.out | apply below_alloc | apply pw_below_drewN | apply below_drew1 | refine below_set ?_ GE321.out) | exact HB.out)) hb); clear BK321; clear HB; have HO327 := n0_; have BK321 := n1_; have HB := n2_; clear n0_ n1_ n2_; (try clear hb); (try clear hb2); (try clear hk); (try clear hi); (try clear ho0); have hcz36_0 : w35.cell? ⟨gb321, 0, none⟩ = some (.slice A0_0 l0_0.length c0_0) := (blk_cell BK321.out 0).trans rfl; have hcz36_1 : w35.cell? ⟨gb321, 1, none⟩ = some (.int .i64 a0_1) := (blk_cell BK321.out 1).trans rfl; have hcz36_2 : w35.cell? ⟨gb321, 2, none⟩ = some (.int .i64 a0_2) := (blk_cell BK321.out 2).trans rfl; have hfz36_0 := blk_frozen BK321.out 0; have hfz36_1 := blk_frozen BK321.out 1; have hfz36_2 := blk_frozen BK321.out 2) | ((with_reducible refine gate_callee (f := 30) rfl ?_); refine goesL_ (some 29) rfl rfl Try.func30 (by kernel_rfl) rfl #[.agg #[.slice A0_0 l0_0.length c0_0, .int .i64 a0_1, .int .i64 a0_2], .int .i64 a1, .int .i64 a2] rfl (by (try simp only [List.map_toArray, List.map_cons, List.map_nil]); first | done | rfl | (simp only [List.length_drop, List.length_take]; rfl)) ?_; (with_reducible refine (store_Make.calls (fun k_ => k_ < w.heap.size) _ _ l0_0 a0_1 a0_2 a1 a2 t328 t331 t332 t333 t334 _ ?side1 A18.out).mono ?_); (case side1 => exact Kd.V_mk HC0_0.out (Kd.F_below (Kd.C_F k82_heap HR0_0.out) (by repeat (first | (with_reducible first | exact HB.out | apply below_alloc | apply pw_below_drewN | apply below_drew1 | refine below_set ?_ GE321.out) | exact HB.out)))); rintro e w37 ⟨v329, rfl, ho0, hb⟩; refine ⟨_, rfl, ?_⟩; have n0_ := Aside0.mk (Kd.R_below (by (with_reducible repeat (first | apply Kd.R_alloc | apply Kd.R_drewN | apply Kd.R_drew)); exact HO327.out) hb); have n1_ := Aside0.mk (Kd.V_lower (Kd.V_mono (ok' := fun k_ => some k_ ≠ (v326 : Value).ownBlock ∧ k_ ≠ gb321) ho0 (fun k_ hk_ => ⟨Or.elim hk_ (fun hs_ => fun e_ => Nat.not_le.2 hs_ (Kd.R_base HO327.out k_ e_.symm)) (fun hn_ => (Kd.fresh' (Kd.R_lt (by (with_reducible repeat (first | apply Kd.R_alloc | apply Kd.R_drewN | apply Kd.R_drew)); exact HO327.out)) k_ hn_)), Or.elim hk_ (fun hs_ => fun e_ => Nat.not_le.2 hs_ (by rw [e_]; exact GW321.out)) (fun hn_ => (Kd.freshB (g := gb321) (o := .cells #[.slice A0_0 l0_0.length c0_0, .int .i64 a0_1, .int .i64 a0_2] 26 (0, 0)) (by (with_reducible repeat (first | refine blk_drewN ?_ _ | refine blk_drew ?_ | refine blk_alloc ?_ _)); exact BK321.out) k_ hn_))⟩)) (below_size (by repeat (first | (with_reducible first | exact HB.out | apply below_alloc | apply pw_below_drewN | apply below_drew1 | refine below_set ?_ GE321.out) | exact HB.out)))); have n2_ := Aside0.mk (blk_below (g := gb321) (o := .cells #[.slice A0_0 l0_0.length c0_0, .int .i64 a0_1, .int .i64 a0_2] 26 (0, 0)) (by (with_reducible repeat (first | refine blk_drewN ?_ _ | refine blk_drew ?_ | refine blk_alloc ?_ _)); exact BK321.out) hb); have n3_ := Aside0.mk (below_step (by repeat (first | (with_reducible first | exact HB.out | apply below_alloc | apply pw_below_drewN | apply below_drew1 | refine below_set ?_ GE321.out) | exact HB.out)) hb); clear HO327; clear BK321; clear HB; have HO327 := n0_; have HO330 := n1_; have BK321 := n2_; have HB := n3_; clear n0_ n1_ n2_ n3_; (try clear hb); (try clear hb2); (try clear hk); (try clear hi); (try clear ho0)) | ((with_reducible refine gate_dst (N := 8) rfl ?_); (try (refine gate_guard (by rfl) ?_; dsimp only)); refine box_event ?hg (N := 8) ?hd (cs := #[.slice none 0 0, .int .i64 0, .int .i64 0]) (t := 26) ?hr ?_; (case hd => rfl); (case hg => rfl); (case hr => first | (go_simp; done) | (go_simp; rfl)); intro gb335 hg w38 hbox hb; have n0_ := Aside0.mk (Kd.R_below (by (with_reducible repeat (first | apply Kd.R_alloc | apply Kd.R_drewN | apply Kd.R_drew)); exact HO327.out) hb); have n1_ := Aside0.mk (Kd.V_below (Kd.V_elderB (by (with_reducible repeat (first | apply Kd.V_alloc | apply Kd.V_drewN | apply Kd.V_drew)); exact HO330.out) gb335 (Nat.le_of_eq hg.symm)) hb); have n2_ := Aside0.mk (blk_below (g := gb321) (o := .cells #[.slice A0_0 l0_0.length c0_0, .int .i64 a0_1, .int .i64 a0_2] 26 (0, 0)) (by (with_reducible repeat (first | refine blk_drewN ?_ _ | refine blk_drew ?_ | refine blk_alloc ?_ _)); exact BK321.out) hb); have n3_ := Aside0.mk (below_step (by repeat (first | (with_reducible first | exact HB.out | apply below_alloc | apply pw_below_drewN | apply below_drew1 | refine below_set ?_ GE321.out) | exact HB.out)) hb); have n4_ := Aside0.mk (hbox); have n5_ := Aside0.mk ((by rw [hg]; exact (below_size (by repeat (first | (with_reducible first | exact HB.out | apply below_alloc | apply pw_below_drewN | apply below_drew1 | refine below_set ?_ GE321.out) | exact HB.out))) : w.heap.size ≤ gb335)); have n6_ := Aside0.mk ((by rw [hg]; exact (below_size (by repeat (first | (with_reducible first | exact HB.out | apply below_alloc | apply pw_below_drewN | apply below_drew1 | refine below_set ?_ GE321.out) | exact HB.out))) : w.heap.size ≤ gb335)); have n7_ := Aside0.mk ((by rw [hg]; exact Nat.ne_of_lt (blk_lt (g := gb321) (o := .cells #[.slice A0_0 l0_0.length c0_0, .int .i64 a0_1, .int .i64 a0_2] 26 (0, 0)) (by (with_reducible repeat (first | refine blk_drewN ?_ _ | refine blk_drew ?_ | refine blk_alloc ?_ _)); exact BK321.out)) : gb321 ≠ gb335)); have n8_ := Aside0.mk ((by rw [hg]; exact Nat.ne_of_gt (blk_lt (g := gb321) (o := .cells #[.slice A0_0 l0_0.length c0_0, .int .i64 a0_1, .int .i64 a0_2] 26 (0, 0)) (by (with_reducible repeat (first | refine blk_drewN ?_ _ | refine blk_drew ?_ | refine blk_alloc ?_ _)); exact BK321.out)) : gb335 ≠ gb321)); clear HO327; clear HO330; clear BK321; clear HB; have HO327 := n0_; have HO330 := n1_; have BK321 := n2_; have HB := n3_; have BK335 := n4_; have GW335 := n5_; have GE335 := n6_; have NB321_335 := n7_; have NB335_321 := n8_; clear n0_ n1_ n2_ n3_ n4_ n5_ n6_ n7_ n8_; clear hb hbox hg; obtain ⟨Ao39, co39, eo39⟩ := Kd.V_slice HO330.out; subst eo39; have hnb40 := NB335_321.out; have hnc40 := NB321_335.out; have hcz41_0 : w38.cell? ⟨gb335, 0, none⟩ = some (.slice none 0 0) := (blk_cell BK335.out 0).trans rfl; have hcz41_1 : w38.cell? ⟨gb335, 1, none⟩ = some (.int .i64 0) := (blk_cell BK335.out 1).trans rfl; have hcz41_2 : w38.cell? ⟨gb335, 2, none⟩ = some (.int .i64 0) := (blk_cell BK335.out 2).trans rfl; have hfz41_0 := blk_frozen BK335.out 0; have hfz41_1 := blk_frozen BK335.out 1; have hfz41_2 := blk_frozen BK335.out 2) | ((with_reducible refine gate_callee (f := 29) rfl ?_); refine goesL_ (some 34) rfl rfl Try.func29 (by kernel_rfl) rfl #[.agg #[.slice Ao39 t328.length co39, .int .i64 t331, .int .i64 t332]] rfl (by (try simp only [List.map_toArray, List.map_cons, List.map_nil]); first | done | rfl | (simp only [List.length_drop, List.length_take]; rfl)) ?_; (with_reducible refine (store_Live.calls _ _ t328 t331 t332 t336 _ ?side1 ?side2 A19.out).mono ?_); (case side1 => refine (Kd.V_reads' (e := 82) (base := w.heap.size) (ok := fun k_ => ((some k_ ≠ (v326 : Value).ownBlock ∧ k_ ≠ gb321) ∧ k_ ≠ gb335)) (n := t328.length) (c := co39) ?_).2.2; exact (by (with_reducible repeat (first | apply Kd.V_alloc | apply Kd.V_drewN | apply Kd.V_drew)); exact (Kd.V_mono (Kd.V_far (p := ⟨gb335, 2, none⟩) (Kd.V_far (p := ⟨gb335, 1, none⟩) (Kd.V_far (p := ⟨gb335, 0, none⟩) (Kd.V_mono HO330.out (fun k_ hk => (⟨hk, hk.2⟩ : _ ∧ k_ ≠ gb335))) (fun _ hk => hk.2) (.slice Ao39 t328.length co39)) (fun _ hk => hk.2) (.int .i64 t331)) (fun _ hk => hk.2) (.int .i64 t332)) (fun _ h_ => h_.1)))); (case side2 => exact (Kd.V_reads' HO330.out).2.1); rintro e w42 ⟨v337, rfl, ho0, hb⟩; refine ⟨_, rfl, ?_⟩; have n0_ := Aside0.mk (Kd.R_elder' (by (with_reducible repeat (first | apply Kd.R_alloc | apply Kd.R_drewN | apply Kd.R_drew)); exact (Kd.R_mono (Kd.R_far (p := ⟨gb335, 2, none⟩) (Kd.R_far (p := ⟨gb335, 1, none⟩) (Kd.R_far (p := ⟨gb335, 0, none⟩) (Kd.R_types HO327.out BK335.out (by decide)) (fun _ hk => hk.2) (.slice Ao39 t328.length co39)) (fun _ hk => hk.2) (.int .i64 t331)) (fun _ hk => hk.2) (.int .i64 t332)) (fun _ h_ => h_.1))) (Kd.R_base ho0) hb); have n1_ := Aside0.mk (Kd.V_elder' (by (with_reducible repeat (first | apply Kd.V_alloc | apply Kd.V_drewN | apply Kd.V_drew)); exact (Kd.V_mono (Kd.V_far (p := ⟨gb335, 2, none⟩) (Kd.V_far (p := ⟨gb335, 1, none⟩) (Kd.V_far (p := ⟨gb335, 0, none⟩) (Kd.V_mono HO330.out (fun k_ hk => (⟨hk, hk.2⟩ : _ ∧ k_ ≠ gb335))) (fun _ hk => hk.2) (.slice Ao39 t328.length co39)) (fun _ hk => hk.2) (.int .i64 t331)) (fun _ hk => hk.2) (.int .i64 t332)) (fun _ h_ => h_.1))) (Kd.R_base ho0) hb); have n2_ := Aside0.mk (Kd.R_lower (Kd.R_new' ho0 (Kd.R_lt (by (with_reducible repeat (first | apply Kd.R_alloc | apply Kd.R_drewN | apply Kd.R_drew)); exact (Kd.R_mono (Kd.R_far (p := ⟨gb335, 2, none⟩) (Kd.R_far (p := ⟨gb335, 1, none⟩) (Kd.R_far (p := ⟨gb335, 0, none⟩) (Kd.R_types HO327.out BK335.out (by decide)) (fun _ hk => hk.2) (.slice Ao39 t328.length co39)) (fun _ hk => hk.2) (.int .i64 t331)) (fun _ hk => hk.2) (.int .i64 t332)) (fun _ h_ => h_.1))))) (below_size (by repeat (first | (with_reducible first | exact HB.out | apply below_alloc | apply pw_below_drewN | apply below_drew1 | refine below_set ?_ GE321.out | refine below_set ?_ GE335.out) | exact HB.out)))); have n3_ := Aside0.mk (blk_below (g := gb321) (o := .cells #[.slice A0_0 l0_0.length c0_0, .int .i64 a0_1, .int .i64 a0_2] 26 (0, 0)) (by (with_reducible repeat (first | refine blk_drewN ?_ _ | refine blk_drew ?_ | refine blk_alloc ?_ _)); refine blk_far ?_ NB321_335.out _; (with_reducible repeat (first | refine blk_drewN ?_ _ | refine blk_drew ?_ | refine blk_alloc ?_ _)); refine blk_far ?_ NB321_335.out _; (with_reducible repeat (first | refine blk_drewN ?_ _ | refine blk_drew ?_ | refine blk_alloc ?_ _)); refine blk_far ?_ NB321_335.out _; (with_reducible repeat (first | refine blk_drewN ?_ _ | refine blk_drew ?_ | refine blk_alloc ?_ _)); exact BK321.out) hb); have n4_ := Aside0.mk (blk_below (g := gb335) (o := .cells #[.slice Ao39 t328.length co39, .int .i64 t331, .int .i64 t332] 26 (0, 0)) (by (with_reducible repeat (first | refine blk_drewN ?_ _ | refine blk_drew ?_ | refine blk_alloc ?_ _)); refine blk_put (cs := #[.slice Ao39 t328.length co39, .int .i64 t331, .int .i64 0]) ?_ 2 _ rfl; (with_reducible repeat (first | refine blk_drewN ?_ _ | refine blk_drew ?_ | refine blk_alloc ?_ _)); refine blk_put (cs := #[.slice Ao39 t328.length co39, .int .i64 0, .int .i64 0]) ?_ 1 _ rfl; (with_reducible repeat (first | refine blk_drewN ?_ _ | refine blk_drew ?_ | refine blk_alloc ?_ _)); refine blk_put (cs := #[.slice none 0 0, .int .i64 0, .int .i64 0]) ?_ 0 _ rfl; (with_reducible repeat (first | refine blk_drewN ?_ _ | refine blk_drew ?_ | refine blk_alloc ?_ _)); exact BK335.out) hb); have n5_ := Aside0.mk (below_step (by repeat (first | (with_reducible first | exact HB.out | apply below_alloc | apply pw_below_drewN | apply below_drew1 | refine below_set ?_ GE321.out | refine below_set ?_ GE335.out) | exact HB.out)) hb); clear HO327; clear HO330; clear BK321; clear BK335; clear HB; have HO327 := n0_; have HO330 := n1_; have HO338 := n2_; have BK321 := n3_; have BK335 := n4_; have HB := n5_; clear n0_ n1_ n2_ n3_ n4_ n5_; (try clear hb); (try clear hb2); (try clear hk); (try clear hi); (try clear ho0); obtain ⟨Ao43, co43, eo43⟩ := Kd.R_slice HO327.out; subst eo43; have hcz44_0 : w42.cell? ⟨gb335, 0, none⟩ = some (.slice Ao39 t328.length co39) := (blk_cell BK335.out 0).trans rfl; have hcz44_1 : w42.cell? ⟨gb335, 1, none⟩ = some (.int .i64 t331) := (blk_cell BK335.out 1).trans rfl; have hcz44_2 : w42.cell? ⟨gb335, 2, none⟩ = some (.int .i64 t332) := (blk_cell BK335.out 2).trans rfl; have hfz44_0 := blk_frozen BK335.out 0; have hfz44_1 := blk_frozen BK335.out 1; have hfz44_2 := blk_frozen BK335.out 2) | ((with_reducible refine gate_callee (f := 23) rfl ?_); refine goesL_ (some 51) rfl rfl Try.func23 (by kernel_rfl) rfl #[.agg #[.slice Ao39 t328.length co39, .int .i64 t331, .int .i64 t332], .int .i64 t333] rfl (by (try simp only [List.map_toArray, List.map_cons, List.map_nil]); first | done | rfl | (simp only [List.length_drop, List.length_take]; rfl)) ?_; (with_reducible refine (store_Get.calls (fun k_ => (((some k_ ≠ (.slice Ao43 t325.length co43 : Value).ownBlock ∧ k_ ≠ gb321) ∧ k_ ≠ gb335) ∧ some k_ ≠ (v337 : Value).ownBlock)) _ _ t328 t331 t332 t333 t339 t340 t341 t342 t343 t344 t347 _ ?side1 A21.out).mono ?_); (case side1 => exact HO330.out); rintro e w45 ⟨v345, rfl, ho0, hb⟩; refine ⟨_, rfl, ?_⟩; have n0_ := Aside0.mk (Kd.R_below (by (with_reducible repeat (first | apply Kd.R_alloc | apply Kd.R_drewN | apply Kd.R_drew)); exact HO327.out) hb); have n1_ := Aside0.mk (Kd.V_below (by (with_reducible repeat (first | apply Kd.V_alloc | apply Kd.V_drewN | apply Kd.V_drew)); exact HO330.out) hb); have n2_ := Aside0.mk (Kd.R_below (by (with_reducible repeat (first | apply Kd.R_alloc | apply Kd.R_drewN | apply Kd.R_drew)); exact HO338.out) hb); have n3_ := Aside0.mk (Kd.V_lower (Kd.V_mono (ok' := fun k_ => some k_ ≠ (.slice Ao43 t325.length co43 : Value).ownBlock ∧ some k_ ≠ (v337 : Value).ownBlock ∧ k_ ≠ gb321 ∧ k_ ≠ gb335) ho0 (fun k_ hk_ => ⟨Or.elim hk_ (fun hs_ => hs_.1.1.1) (fun hn_ => (Kd.fresh' (Kd.R_lt (by (with_reducible repeat (first | apply Kd.R_alloc | apply Kd.R_drewN | apply Kd.R_drew)); exact HO327.out)) k_ hn_)), Or.elim hk_ (fun hs_ => hs_.2) (fun hn_ => (Kd.fresh' (Kd.R_lt (by (with_reducible repeat (first | apply Kd.R_alloc | apply Kd.R_drewN | apply Kd.R_drew)); exact HO338.out)) k_ hn_)), Or.elim hk_ (fun hs_ => hs_.1.1.2) (fun hn_ => (Kd.freshB (g := gb321) (o := .cells #[.slice A0_0 l0_0.length c0_0, .int .i64 a0_1, .int .i64 a0_2] 26 (0, 0)) (by (with_reducible repeat (first | refine blk_drewN ?_ _ | refine blk_drew ?_ | refine blk_alloc ?_ _)); exact BK321.out) k_ hn_)), Or.elim hk_ (fun hs_ => hs_.1.2) (fun hn_ => (Kd.freshB (g := gb335) (o := .cells #[.slice Ao39 t328.length co39, .int .i64 t331, .int .i64 t332] 26 (0, 0)) (by (with_reducible repeat (first | refine blk_drewN ?_ _ | refine blk_drew ?_ | refine blk_alloc ?_ _)); exact BK335.out) k_ hn_))⟩)) (below_size (by repeat (first | (with_reducible first | exact HB.out | apply below_alloc | apply pw_below_drewN | apply below_drew1 | refine below_set ?_ GE321.out | refine below_set ?_ GE335.out) | exact HB.out)))); have n4_ := Aside0.mk (blk_below (g := gb321) (o := .cells #[.slice A0_0 l0_0.length c0_0, .int .i64 a0_1, .int .i64 a0_2] 26 (0, 0)) (by (with_reducible repeat (first | refine blk_drewN ?_ _ | refine blk_drew ?_ | refine blk_alloc ?_ _)); exact BK321.out) hb); have n5_ := Aside0.mk (blk_below (g := gb335) (o := .cells #[.slice Ao39 t328.length co39, .int .i64 t331, .int .i64 t332] 26 (0, 0)) (by (with_reducible repeat (first | refine blk_drewN ?_ _ | refine blk_drew ?_ | refine blk_alloc ?_ _)); exact BK335.out) hb); have n6_ := Aside0.mk (below_step (by repeat (first | (with_reducible first | exact HB.out | apply below_alloc | apply pw_below_drewN | apply below_drew1 | refine below_set ?_ GE321.out | refine below_set ?_ GE335.out) | exact HB.out)) hb); clear HO327; clear HO330; clear HO338; clear BK321; clear BK335; clear HB; have HO327 := n0_; have HO330 := n1_; have HO338 := n2_; have HO346 := n3_; have BK321 := n4_; have BK335 := n5_; have HB := n6_; clear n0_ n1_ n2_ n3_ n4_ n5_ n6_; (try clear hb); (try clear hb2); (try clear hk); (try clear hi); (try clear ho0)) | ((with_reducible refine gate_dst (N := 13) rfl ?_); (try (refine gate_guard (by rfl) ?_; dsimp only)); refine box_event ?hg (N := 13) ?hd (cs := #[.int .i64 0, .int .i64 0, .int .i64 0, .int .i64 0, .bool false, .slice none 0 0]) (t := 29) ?hr ?_; (case hd => rfl); (case hg => rfl); (case hr => first | (go_simp; done) | (go_simp; rfl)); intro gb348 hg w46 hbox hb; have n0_ := Aside0.mk (Kd.R_below (by (with_reducible repeat (first | apply Kd.R_alloc | apply Kd.R_drewN | apply Kd.R_drew)); exact HO327.out) hb); have n1_ := Aside0.mk (Kd.V_below (Kd.V_elderB (by (with_reducible repeat (first | apply Kd.V_alloc | apply Kd.V_drewN | apply Kd.V_drew)); exact HO330.out) gb348 (Nat.le_of_eq hg.symm)) hb); have n2_ := Aside0.mk (Kd.R_below (by (with_reducible repeat (first | apply Kd.R_alloc | apply Kd.R_drewN | apply Kd.R_drew)); exact HO338.out) hb); have n3_ := Aside0.mk (Kd.V_below (Kd.V_elderB (by (with_reducible repeat (first | apply Kd.V_alloc | apply Kd.V_drewN | apply Kd.V_drew)); exact HO346.out) gb348 (Nat.le_of_eq hg.symm)) hb); have n4_ := Aside0.mk (blk_below (g := gb321) (o := .cells #[.slice A0_0 l0_0.length c0_0, .int .i64 a0_1, .int .i64 a0_2] 26 (0, 0)) (by (with_reducible repeat (first | refine blk_drewN ?_ _ | refine blk_drew ?_ | refine blk_alloc ?_ _)); exact BK321.out) hb); have n5_ := Aside0.mk (blk_below (g := gb335) (o := .cells #[.slice Ao39 t328.length co39, .int .i64 t331, .int .i64 t332] 26 (0, 0)) (by (with_reducible repeat (first | refine blk_drewN ?_ _ | refine blk_drew ?_ | refine blk_alloc ?_ _)); exact BK335.out) hb); have n6_ := Aside0.mk (below_step (by repeat (first | (with_reducible first | exact HB.out | apply below_alloc | apply pw_below_drewN | apply below_drew1 | refine below_set ?_ GE321.out | refine below_set ?_ GE335.out) | exact HB.out)) hb); have n7_ := Aside0.mk (hbox); have n8_ := Aside0.mk ((by rw [hg]; exact (below_size (by repeat (first | (with_reducible first | exact HB.out | apply below_alloc | apply pw_below_drewN | apply below_drew1 | refine below_set ?_ GE321.out | refine below_set ?_ GE335.out) | exact HB.out))) : w.heap.size ≤ gb348)); have n9_ := Aside0.mk ((by rw [hg]; exact (below_size (by repeat (first | (with_reducible first | exact HB.out | apply below_alloc | apply pw_below_drewN | apply below_drew1 | refine below_set ?_ GE321.out | refine below_set ?_ GE335.out) | exact HB.out))) : w.heap.size ≤ gb348)); have n10_ := Aside0.mk ((by rw [hg]; exact Nat.ne_of_lt (blk_lt (g := gb321) (o := .cells #[.slice A0_0 l0_0.length c0_0, .int .i64 a0_1, .int .i64 a0_2] 26 (0, 0)) (by (with_reducible repeat (first | refine blk_drewN ?_ _ | refine blk_drew ?_ | refine blk_alloc ?_ _)); exact BK321.out)) : gb321 ≠ gb348)); have n11_ := Aside0.mk ((by rw [hg]; exact Nat.ne_of_gt (blk_lt (g := gb321) (o := .cells #[.slice A0_0 l0_0.length c0_0, .int .i64 a0_1, .int .i64 a0_2] 26 (0, 0)) (by (with_reducible repeat (first | refine blk_drewN ?_ _ | refine blk_drew ?_ | refine blk_alloc ?_ _)); exact BK321.out)) : gb348 ≠ gb321)); have n12_ := Aside0.mk ((by rw [hg]; exact Nat.ne_of_lt (blk_lt (g := gb335) (o := .cells #[.slice Ao39 t328.length co39, .int .i64 t331, .int .i64 t332] 26 (0, 0)) (by (with_reducible repeat (first | refine blk_drewN ?_ _ | refine blk_drew ?_ | refine blk_alloc ?_ _)); exact BK335.out)) : gb335 ≠ gb348)); have n13_ := Aside0.mk ((by rw [hg]; exact Nat.ne_of_gt (blk_lt (g := gb335) (o := .cells #[.slice Ao39 t328.length co39, .int .i64 t331, .int .i64 t332] 26 (0, 0)) (by (with_reducible repeat (first | refine blk_drewN ?_ _ | refine blk_drew ?_ | refine blk_alloc ?_ _)); exact BK335.out)) : gb348 ≠ gb335)); clear HO327; clear HO330; clear HO338; clear HO346; clear BK321; clear BK335; clear HB; have HO327 := n0_; have HO330 := n1_; have HO338 := n2_; have HO346 := n3_; have BK321 := n4_; have BK335 := n5_; have HB := n6_; have BK348 := n7_; have GW348 := n8_; have GE348 := n9_; have NB321_348 := n10_; have NB348_321 := n11_; have NB335_348 := n12_; have NB348_335 := n13_; clear n0_ n1_ n2_ n3_ n4_ n5_ n6_ n7_ n8_ n9_ n10_ n11_ n12_ n13_; clear hb hbox hg; have hnb47 := NB348_321.out; have hnc47 := NB321_348.out; have hnb48 := NB348_335.out; have hnc48 := NB335_348.out; have hcz49_0 : w46.cell? ⟨gb348, 0, none⟩ = some (.int .i64 0) := (blk_cell BK348.out 0).trans rfl; have hcz49_1 : w46.cell? ⟨gb348, 1, none⟩ = some (.int .i64 0) := (blk_cell BK348.out 1).trans rfl; have hcz49_2 : w46.cell? ⟨gb348, 2, none⟩ = some (.int .i64 0) := (blk_cell BK348.out 2).trans rfl; have hcz49_3 : w46.cell? ⟨gb348, 3, none⟩ = some (.int .i64 0) := (blk_cell BK348.out 3).trans rfl; have hcz49_4 : w46.cell? ⟨gb348, 4, none⟩ = some (.bool false) := (blk_cell BK348.out 4).trans rfl; have hcz49_5 : w46.cell? ⟨gb348, 5, none⟩ = some (.slice none 0 0) := (blk_cell BK348.out 5).trans rfl; have hfz49_0 := blk_frozen BK348.out 0; have hfz49_1 := blk_frozen BK348.out 1; have hfz49_2 := blk_frozen BK348.out 2; have hfz49_3 := blk_frozen BK348.out 3; have hfz49_4 := blk_frozen BK348.out 4; have hfz49_5 := blk_frozen BK348.out 5; obtain ⟨Ao50, co50, eo50⟩ := Kd.V_slice HO346.out; subst eo50) | ((with_reducible refine gate_store (t := 29) (p := 13) rfl ?_); refine store_event (t := 29) (p := 13) (v := ?vo_w51) (w1 := ((((((w46.setCell ⟨gb348, 0, none⟩ (.int .i64 t339)).setCell ⟨gb348, 1, none⟩ (.int .i64 t340)).setCell ⟨gb348, 2, none⟩ (.int .i64 t341)).setCell ⟨gb348, 3, none⟩ (.int .i64 t342)).setCell ⟨gb348, 4, none⟩ (.bool t343)).setCell ⟨gb348, 5, none⟩ (.slice Ao50 t344.length co50))) ?hg ?ho ?hn ?hr ?_; (case ho => rfl); (case hg => rfl); (case hn => rfl); (case hr => first | (go_simp; done) | (go_simp; rfl)); intro w51 hw; have n0_ : Aside0 (Kd.R (Kd.int .i64) 3 w51 w.heap.size (fun k_ => some k_ ≠ (v337 : Value).ownBlock) (.slice Ao43 t325.length co43) t325) := ⟨(by rw [hw]; exact (by (with_reducible repeat (first | apply Kd.R_alloc | apply Kd.R_drewN | apply Kd.R_drew)); exact Kd.R_mono (Kd.R_far (p := ⟨gb348, 5, none⟩) (Kd.R_far (p := ⟨gb348, 4, none⟩) (Kd.R_far (p := ⟨gb348, 3, none⟩) (Kd.R_far (p := ⟨gb348, 2, none⟩) (Kd.R_far (p := ⟨gb348, 1, none⟩) (Kd.R_far (p := ⟨gb348, 0, none⟩) (Kd.R_types HO327.out BK348.out (by decide)) (fun _ hk => hk.2) (.int .i64 t339)) (fun _ hk => hk.2) (.int .i64 t340)) (fun _ hk => hk.2) (.int .i64 t341)) (fun _ hk => hk.2) (.int .i64 t342)) (fun _ hk => hk.2) (.bool t343)) (fun _ hk => hk.2) (.slice Ao50 t344.length co50)) (fun _ hk => hk.1.2)))⟩; have n1_ : Aside0 (Kd.V k82 82 w51 w.heap.size (fun k_ => some k_ ≠ (.slice Ao43 t325.length co43 : Value).ownBlock ∧ some k_ ≠ (v337 : Value).ownBlock ∧ k_ ≠ gb321 ∧ k_ ≠ gb335 ∧ k_ ≠ gb348) (.slice Ao39 t328.length co39) t328) := ⟨(by rw [hw]; exact (by (with_reducible repeat (first | apply Kd.V_alloc | apply Kd.V_drewN | apply Kd.V_drew)); exact Kd.V_mono (Kd.V_far (p := ⟨gb348, 5, none⟩) (Kd.V_far (p := ⟨gb348, 4, none⟩) (Kd.V_far (p := ⟨gb348, 3, none⟩) (Kd.V_far (p := ⟨gb348, 2, none⟩) (Kd.V_far (p := ⟨gb348, 1, none⟩) (Kd.V_far (p := ⟨gb348, 0, none⟩) (Kd.V_mono HO330.out (fun k_ hk => (⟨hk, hk.2⟩ : _ ∧ k_ ≠ gb348))) (fun _ hk => hk.2) (.int .i64 t339)) (fun _ hk => hk.2) (.int .i64 t340)) (fun _ hk => hk.2) (.int .i64 t341)) (fun _ hk => hk.2) (.int .i64 t342)) (fun _ hk => hk.2) (.bool t343)) (fun _ hk => hk.2) (.slice Ao50 t344.length co50)) (fun _ hk => ⟨hk.1.1.1.1.1, ⟨hk.1.1.2, ⟨hk.1.1.1.1.2, ⟨hk.1.1.1.2, hk.1.2⟩⟩⟩⟩)))⟩; have n2_ : Aside0 (Kd.R (Kd.int .i64) 3 w51 w.heap.size (fun k_ => some k_ ≠ (.slice Ao43 t325.length co43 : Value).ownBlock) v337 t336) := ⟨(by rw [hw]; exact (by (with_reducible repeat (first | apply Kd.R_alloc | apply Kd.R_drewN | apply Kd.R_drew)); exact Kd.R_mono (Kd.R_far (p := ⟨gb348, 5, none⟩) (Kd.R_far (p := ⟨gb348, 4, none⟩) (Kd.R_far (p := ⟨gb348, 3, none⟩) (Kd.R_far (p := ⟨gb348, 2, none⟩) (Kd.R_far (p := ⟨gb348, 1, none⟩) (Kd.R_far (p := ⟨gb348, 0, none⟩) (Kd.R_types HO338.out BK348.out (by decide)) (fun _ hk => hk.2) (.int .i64 t339)) (fun _ hk => hk.2) (.int .i64 t340)) (fun _ hk => hk.2) (.int .i64 t341)) (fun _ hk => hk.2) (.int .i64 t342)) (fun _ hk => hk.2) (.bool t343)) (fun _ hk => hk.2) (.slice Ao50 t344.length co50)) (fun _ hk => hk.1.2)))⟩; have n3_ : Aside0 (Kd.V (Kd.int .i64) 3 w51 w.heap.size (fun k_ => some k_ ≠ (.slice Ao43 t325.length co43 : Value).ownBlock ∧ some k_ ≠ (v337 : Value).ownBlock ∧ k_ ≠ gb321 ∧ k_ ≠ gb335 ∧ k_ ≠ gb348) (.slice Ao50 t344.length co50) t344) := ⟨(by rw [hw]; exact (by (with_reducible repeat (first | apply Kd.V_alloc | apply Kd.V_drewN | apply Kd.V_drew)); exact Kd.V_mono (Kd.V_far (p := ⟨gb348, 5, none⟩) (Kd.V_far (p := ⟨gb348, 4, none⟩) (Kd.V_far (p := ⟨gb348, 3, none⟩) (Kd.V_far (p := ⟨gb348, 2, none⟩) (Kd.V_far (p := ⟨gb348, 1, none⟩) (Kd.V_far (p := ⟨gb348, 0, none⟩) (Kd.V_mono HO346.out (fun k_ hk => (⟨hk, hk.2⟩ : _ ∧ k_ ≠ gb348))) (fun _ hk => hk.2) (.int .i64 t339)) (fun _ hk => hk.2) (.int .i64 t340)) (fun _ hk => hk.2) (.int .i64 t341)) (fun _ hk => hk.2) (.int .i64 t342)) (fun _ hk => hk.2) (.bool t343)) (fun _ hk => hk.2) (.slice Ao50 t344.length co50)) (fun _ hk => ⟨hk.1.1.1, ⟨hk.1.1.2.1, ⟨hk.1.1.2.2.1, ⟨hk.1.1.2.2.2, hk.1.2⟩⟩⟩⟩)))⟩; have n4_ : Aside0 (w51.heap[gb321]? = some (.cells #[.slice A0_0 l0_0.length c0_0, .int .i64 a0_1, .int .i64 a0_2] 26 (0, 0))) := ⟨(by rw [hw]; exact (by (with_reducible repeat (first | refine blk_drewN ?_ _ | refine blk_drew ?_ | refine blk_alloc ?_ _)); refine blk_far ?_ NB321_348.out _; (with_reducible repeat (first | refine blk_drewN ?_ _ | refine blk_drew ?_ | refine blk_alloc ?_ _)); refine blk_far ?_ NB321_348.out _; (with_reducible repeat (first | refine blk_drewN ?_ _ | refine blk_drew ?_ | refine blk_alloc ?_ _)); refine blk_far ?_ NB321_348.out _; (with_reducible repeat (first | refine blk_drewN ?_ _ | refine blk_drew ?_ | refine blk_alloc ?_ _)); refine blk_far ?_ NB321_348.out _; (with_reducible repeat (first | refine blk_drewN ?_ _ | refine blk_drew ?_ | refine blk_alloc ?_ _)); refine blk_far ?_ NB321_348.out _; (with_reducible repeat (first | refine blk_drewN ?_ _ | refine blk_drew ?_ | refine blk_alloc ?_ _)); refine blk_far ?_ NB321_348.out _; (with_reducible repeat (first | refine blk_drewN ?_ _ | refine blk_drew ?_ | refine blk_alloc ?_ _)); exact BK321.out))⟩; have n5_ : Aside0 (w51.heap[gb335]? = some (.cells #[.slice Ao39 t328.length co39, .int .i64 t331, .int .i64 t332] 26 (0, 0))) := ⟨(by rw [hw]; exact (by (with_reducible repeat (first | refine blk_drewN ?_ _ | refine blk_drew ?_ | refine blk_alloc ?_ _)); refine blk_far ?_ NB335_348.out _; (with_reducible repeat (first | refine blk_drewN ?_ _ | refine blk_drew ?_ | refine blk_alloc ?_ _)); refine blk_far ?_ NB335_348.out _; (with_reducible repeat (first | refine blk_drewN ?_ _ | refine blk_drew ?_ | refine blk_alloc ?_ _)); refine blk_far ?_ NB335_348.out _; (with_reducible repeat (first | refine blk_drewN ?_ _ | refine blk_drew ?_ | refine blk_alloc ?_ _)); refine blk_far ?_ NB335_348.out _; (with_reducible repeat (first | refine blk_drewN ?_ _ | refine blk_drew ?_ | refine blk_alloc ?_ _)); refine blk_far ?_ NB335_348.out _; (with_reducible repeat (first | refine blk_drewN ?_ _ | refine blk_drew ?_ | refine blk_alloc ?_ _)); refine blk_far ?_ NB335_348.out _; (with_reducible repeat (first | refine blk_drewN ?_ _ | refine blk_drew ?_ | refine blk_alloc ?_ _)); exact BK335.out))⟩; have n6_ : Aside0 (w51.heap[gb348]? = some (.cells #[.int .i64 t339, .int .i64 t340, .int .i64 t341, .int .i64 t342, .bool t343, .slice Ao50 t344.length co50] 29 (0, 0))) := ⟨(by rw [hw]; exact (by (with_reducible repeat (first | refine blk_drewN ?_ _ | refine blk_drew ?_ | refine blk_alloc ?_ _)); refine blk_put (cs := #[.int .i64 t339, .int .i64 t340, .int .i64 t341, .int .i64 t342, .bool t343, .slice none 0 0]) ?_ 5 _ rfl; (with_reducible repeat (first | refine blk_drewN ?_ _ | refine blk_drew ?_ | refine blk_alloc ?_ _)); refine blk_put (cs := #[.int .i64 t339, .int .i64 t340, .int .i64 t341, .int .i64 t342, .bool false, .slice none 0 0]) ?_ 4 _ rfl; (with_reducible repeat (first | refine blk_drewN ?_ _ | refine blk_drew ?_ | refine blk_alloc ?_ _)); refine blk_put (cs := #[.int .i64 t339, .int .i64 t340, .int .i64 t341, .int .i64 0, .bool false, .slice none 0 0]) ?_ 3 _ rfl; (with_reducible repeat (first | refine blk_drewN ?_ _ | refine blk_drew ?_ | refine blk_alloc ?_ _)); refine blk_put (cs := #[.int .i64 t339, .int .i64 t340, .int .i64 0, .int .i64 0, .bool false, .slice none 0 0]) ?_ 2 _ rfl; (with_reducible repeat (first | refine blk_drewN ?_ _ | refine blk_drew ?_ | refine blk_alloc ?_ _)); refine blk_put (cs := #[.int .i64 t339, .int .i64 0, .int .i64 0, .int .i64 0, .bool false, .slice none 0 0]) ?_ 1 _ rfl; (with_reducible repeat (first | refine blk_drewN ?_ _ | refine blk_drew ?_ | refine blk_alloc ?_ _)); refine blk_put (cs := #[.int .i64 0, .int .i64 0, .int .i64 0, .int .i64 0, .bool false, .slice none 0 0]) ?_ 0 _ rfl; (with_reducible repeat (first | refine blk_drewN ?_ _ | refine blk_drew ?_ | refine blk_alloc ?_ _)); exact BK348.out))⟩; have n7_ : Aside0 (Below w.heap.size w w51) := ⟨(by rw [hw]; exact (by repeat (first | (with_reducible first | exact HB.out | apply below_alloc | apply pw_below_drewN | apply below_drew1 | refine below_set ?_ GE321.out | refine below_set ?_ GE335.out | refine below_set ?_ GE348.out) | exact HB.out)))⟩; clear hw; clear HO327; clear HO330; clear HO338; clear HO346; clear BK321; clear BK335; clear BK348; clear HB; have HO327 := n0_; have HO330 := n1_; have HO338 := n2_; have HO346 := n3_; have BK321 := n4_; have BK335 := n5_; have BK348 := n6_; have HB := n7_; clear n0_ n1_ n2_ n3_ n4_ n5_ n6_ n7_; obtain ⟨Ao52, co52, eo52⟩ := Kd.R_slice HO338.out; subst eo52; have p349 : 0 ≤ ((t325.length : Int) : Int) := of_decide_eq_true (by first | (with_reducible assumption) | assumption); have q349 : (t325.length : Int) < (t336.length : Int) := of_decide_eq_true (by first | (with_reducible assumption) | assumption); obtain ⟨ad349, e349, hx349_0⟩ := Kd.at_int (Kd.R_reads' HO338.out).2.2 (t325.length : Int) p349 q349; cases e349; (try simp only [Go.IntWalk.toNatUp] at hx349_0); replace p349 := eq_true p349; replace q349 := eq_true q349; have q53 : ((t325.length : Int) : Int) ≤ ((t336.length : Int) : Int) := of_decide_eq_true (by first | (with_reducible assumption) | assumption); obtain ⟨i053, hi053, _, hsz53, _⟩ := info_parts info3; have hroom53 : t336.length ≤ co52 := (Kd.R_reads' HO338.out).2.1; have hC53 : Kd.F (Kd.int .i64) _ _ (some ad349) t336.length t336 := (Kd.V_at (base := w.heap.size) (Kd.R_V (Kd.R_types (Kd.R_types (Kd.R_types (HO338.out) BK321.out (by decide)) BK335.out (by decide)) BK348.out (by decide)))).2.2; have hcut53 := cut_to (P := Try.prog) 27 3 .i64 Try.underlying27 hi053 (some ad349) t336.length co52 (t325.length : Int) (of_decide_eq_true (by first | (with_reducible assumption) | assumption)) q53 hroom53; have hr53 := Kd.F_take (m := ((t325.length : Int) : Int).toNat) hC53 (by omega); have hy53 : y350.length = ((t325.length : Int) : Int).toNat := (by rw [Ny350.out, List.length_take]; omega); rw [← Ny350.out] at hr53; rw [← hy53] at hcut53; have HO354 := Aside0.mk (show Kd.V (Kd.int .i64) 3 _ w.heap.size _ (.slice (some ad349) y350.length co52) y350 from Kd.V_mk (by omega) hr53); have HC354 := Aside0.mk (show y350.length ≤ co52 from by omega); clear hr53 hC53 hroom53 hi053 hsz53; have KY53 := Aside0.mk hy53; clear hy53; replace q53 := eq_true q53) | (go_at_call 31; (with_reducible refine (mortmainref02_Ints.calls kj3 _ _ y350 _ _ t325 true _ ?side1 ?side2 ?side3 ?side4 A28.out).mono ?_); (case side1 => repeat (first | exact (Kd.V_reads' HO354.out).2.2 | (with_reducible refine Kd.C_alloc ?_ _) | (with_reducible refine Kd.C_drewN ?_ _) | (with_reducible refine Kd.C_drew ?_))); (case side2 => exact (Kd.V_reads' HO354.out).2.1); (case side3 => repeat (first | exact (Kd.R_reads' HO327.out).2.2 | (with_reducible refine Kd.C_alloc ?_ _) | (with_reducible refine Kd.C_drewN ?_ _) | (with_reducible refine Kd.C_drew ?_))); (case side4 => exact (Kd.R_reads' HO327.out).2.1); rintro e w' ⟨rfl, ⟨nd, rfl⟩⟩; have hcz54_0 : w51.cell? ⟨gb348, 0, none⟩ = some (.int .i64 t339) := (blk_cell BK348.out 0).trans rfl; have hcz54_1 : w51.cell? ⟨gb348, 1, none⟩ = some (.int .i64 t340) := (blk_cell BK348.out 1).trans rfl; have hcz54_2 : w51.cell? ⟨gb348, 2, none⟩ = some (.int .i64 t341) := (blk_cell BK348.out 2).trans rfl; have hcz54_3 : w51.cell? ⟨gb348, 3, none⟩ = some (.int .i64 t342) := (blk_cell BK348.out 3).trans rfl; have hcz54_4 : w51.cell? ⟨gb348, 4, none⟩ = some (.bool t343) := (blk_cell BK348.out 4).trans rfl; have hcz54_5 : w51.cell? ⟨gb348, 5, none⟩ = some (.slice Ao50 t344.length co50) := (blk_cell BK348.out 5).trans rfl; have hfz54_0 := blk_frozen BK348.out 0; have hfz54_1 := blk_frozen BK348.out 1; have hfz54_2 := blk_frozen BK348.out 2; have hfz54_3 := blk_frozen BK348.out 3; have hfz54_4 := blk_frozen BK348.out 4; have hfz54_5 := blk_frozen BK348.out 5; have hcz55_0 : w51.cell? ⟨gb321, 0, none⟩ = some (.slice A0_0 l0_0.length c0_0) := (blk_cell BK321.out 0).trans rfl; have hcz55_1 : w51.cell? ⟨gb321, 1, none⟩ = some (.int .i64 a0_1) := (blk_cell BK321.out 1).trans rfl; have hcz55_2 : w51.cell? ⟨gb321, 2, none⟩ = some (.int .i64 a0_2) := (blk_cell BK321.out 2).trans rfl; have hfz55_0 := blk_frozen BK321.out 0; have hfz55_1 := blk_frozen BK321.out 1; have hfz55_2 := blk_frozen BK321.out 2; have hcz56_0 : w51.cell? ⟨gb335, 0, none⟩ = some (.slice Ao39 t328.length co39) := (blk_cell BK335.out 0).trans rfl; have hcz56_1 : w51.cell? ⟨gb335, 1, none⟩ = some (.int .i64 t331) := (blk_cell BK335.out 1).trans rfl; have hcz56_2 : w51.cell? ⟨gb335, 2, none⟩ = some (.int .i64 t332) := (blk_cell BK335.out 2).trans rfl; have hfz56_0 := blk_frozen BK335.out 0; have hfz56_1 := blk_frozen BK335.out 1; have hfz56_2 := blk_frozen BK335.out 2))
               go_ret
               exact ⟨by first | rfl | (simp [errW_none, errW_some] <;> rfl) | (simp [*, errW_none, errW_some] <;> rfl), by repeat (first | (with_reducible first | exact HB.out | apply below_alloc | apply pw_below_drewN | apply below_drew1 | refine below_set ?_ GE321.out | refine below_set ?_ GE335.out | refine below_set ?_ GE348.out) | exact HB.out)⟩
              ·rw [if_neg c33] at H
               exact absurd H (by simp)
             ·rw [if_neg c32] at H
              exact absurd H (by simp)
            ·rw [if_neg c31] at H
             exact absurd H (by simp)
           ·rw [if_neg c30] at H
            exact absurd H (by simp)
          ·replace c29 := Bool.eq_false_iff.mpr c29
           subst c29
           have H1 : (none) = some r := by rw [if_neg (show ¬ (false = true) by decide)] at H; exact H
           clear H
           have H := H1
           clear H1
           exact absurd H (by simp)
         ·rw [if_neg c27] at H
          exact absurd H (by simp)
        ·rw [if_neg c25] at H
         exact absurd H (by simp)
       ·rw [if_neg c24] at H
        exact absurd H (by simp)
      ·rw [if_neg c23] at H
       exact absurd H (by simp)
     ·rw [if_neg c22] at H
      exact absurd H (by simp)
    ·rw [if_neg c20] at H
     have c20b0 : (t334 == 0) = false := beq_eq_false_iff_ne.mpr c20
     have c20b1 : (t334 != 0) = true := bne_iff_ne.mpr c20
     by_cases c57 : t333 = 0
     ·rw [if_pos c57] at H
      have c57b0 : (t333 == 0) = true := beq_iff_eq.mpr c57
      have c57b1 : (t333 != 0) = false := bne_eq_false_iff_eq.mpr c57
      clear c57
      replace H := Option.bind_eq_some_iff.mp H
      obtain ⟨⟨t356, t359, t360⟩, A580, H⟩ := H
      replace H : ((mortmainlaw06_its.f kj3 l0_0 a0_1 a0_2).bind fun bt361 => ((mortmainref06_Same.f kj3 t356 t359 t360 bt361.1 bt361.2.1 bt361.2.2).bind fun t366 => (some t366))) = some r := H
      have A58 := Aside0.mk A580
      clear A580
      replace H := Option.bind_eq_some_iff.mp H
      obtain ⟨⟨t361, t364, t365⟩, A590, H⟩ := H
      replace H : ((mortmainref06_Same.f kj3 t356 t359 t360 t361 t364 t365).bind fun t366 => (some t366)) = some r := H
      have A59 := Aside0.mk A590
      clear A590
      replace H := Option.bind_eq_some_iff.mp H
      obtain ⟨t366, A600, H⟩ := H
      replace H : (some t366) = some r := H
      have A60 := Aside0.mk A600
      clear A600
      obtain rfl := Option.some.inj H
      have hcz61_0 : wc.cell? ⟨gb321, 0, none⟩ = some (.slice A0_0 l0_0.length c0_0) := (blk_cell BK321.out 0).trans rfl
      have hcz61_1 : wc.cell? ⟨gb321, 1, none⟩ = some (.int .i64 a0_1) := (blk_cell BK321.out 1).trans rfl
      have hcz61_2 : wc.cell? ⟨gb321, 2, none⟩ = some (.int .i64 a0_2) := (blk_cell BK321.out 2).trans rfl
      have hfz61_0 := blk_frozen BK321.out 0
      have hfz61_1 := blk_frozen BK321.out 1
      have hfz61_2 := blk_frozen BK321.out 2
      try go_wp2_with (first | ((with_reducible refine gate_callee (f := 29) rfl ?_); refine goesL_ (some 24) rfl rfl Try.func29 (by kernel_rfl) rfl #[.agg #[.slice A0_0 l0_0.length c0_0, .int .i64 a0_1, .int .i64 a0_2]] rfl (by (try simp only [List.map_toArray, List.map_cons, List.map_nil]); first | done | rfl | (simp only [List.length_drop, List.length_take]; rfl)) ?_; (with_reducible refine (store_Live.calls _ _ l0_0 a0_1 a0_2 t325 _ ?side1 ?side2 A17.out).mono ?_); (case side1 => repeat (first | exact (Kd.C_below HR0_0.out HB.out) | (with_reducible refine Kd.C_alloc ?_ _) | (with_reducible refine Kd.C_drewN ?_ _) | (with_reducible refine Kd.C_drew ?_))); (case side2 => exact HC0_0.out); rintro e w62 ⟨v326, rfl, ho0, hb⟩; refine ⟨_, rfl, ?_⟩; have n0_ := Aside0.mk (Kd.R_lower ho0 (below_size (by repeat (first | (with_reducible first | exact HB.out | apply below_alloc | apply pw_below_drewN | apply below_drew1 | refine below_set ?_ GE321.out) | exact HB.out)))); have n1_ := Aside0.mk (blk_below (g := gb321) (o := .cells #[.slice A0_0 l0_0.length c0_0, .int .i64 a0_1, .int .i64 a0_2] 26 (0, 0)) (by (with_reducible repeat (first | refine blk_drewN ?_ _ | refine blk_drew ?_ | refine blk_alloc ?_ _)); exact BK321.out) hb); have n2_ := Aside0.mk (below_step (by repeat (first | (with_reducible first | exact HB.out | apply below_alloc | apply pw_below_drewN | apply below_drew1 | refine below_set ?_ GE321.out) | exact HB.out)) hb); clear BK321; clear HB; have HO327 := n0_; have BK321 := n1_; have HB := n2_; clear n0_ n1_ n2_; (try clear hb); (try clear hb2); (try clear hk); (try clear hi); (try clear ho0); have hcz63_0 : w62.cell? ⟨gb321, 0, none⟩ = some (.slice A0_0 l0_0.length c0_0) := (blk_cell BK321.out 0).trans rfl; have hcz63_1 : w62.cell? ⟨gb321, 1, none⟩ = some (.int .i64 a0_1) := (blk_cell BK321.out 1).trans rfl; have hcz63_2 : w62.cell? ⟨gb321, 2, none⟩ = some (.int .i64 a0_2) := (blk_cell BK321.out 2).trans rfl; have hfz63_0 := blk_frozen BK321.out 0; have hfz63_1 := blk_frozen BK321.out 1; have hfz63_2 := blk_frozen BK321.out 2) | ((with_reducible refine gate_callee (f := 30) rfl ?_); refine goesL_ (some 29) rfl rfl Try.func30 (by kernel_rfl) rfl #[.agg #[.slice A0_0 l0_0.length c0_0, .int .i64 a0_1, .int .i64 a0_2], .int .i64 a1, .int .i64 a2] rfl (by (try simp only [List.map_toArray, List.map_cons, List.map_nil]); first | done | rfl | (simp only [List.length_drop, List.length_take]; rfl)) ?_; (with_reducible refine (store_Make.calls (fun k_ => k_ < w.heap.size) _ _ l0_0 a0_1 a0_2 a1 a2 t328 t331 t332 t333 t334 _ ?side1 A18.out).mono ?_); (case side1 => exact Kd.V_mk HC0_0.out (Kd.F_below (Kd.C_F k82_heap HR0_0.out) (by repeat (first | (with_reducible first | exact HB.out | apply below_alloc | apply pw_below_drewN | apply below_drew1 | refine below_set ?_ GE321.out) | exact HB.out)))); rintro e w64 ⟨v329, rfl, ho0, hb⟩; refine ⟨_, rfl, ?_⟩; have n0_ := Aside0.mk (Kd.R_below (by (with_reducible repeat (first | apply Kd.R_alloc | apply Kd.R_drewN | apply Kd.R_drew)); exact HO327.out) hb); have n1_ := Aside0.mk (Kd.V_lower (Kd.V_mono (ok' := fun k_ => some k_ ≠ (v326 : Value).ownBlock ∧ k_ ≠ gb321) ho0 (fun k_ hk_ => ⟨Or.elim hk_ (fun hs_ => fun e_ => Nat.not_le.2 hs_ (Kd.R_base HO327.out k_ e_.symm)) (fun hn_ => (Kd.fresh' (Kd.R_lt (by (with_reducible repeat (first | apply Kd.R_alloc | apply Kd.R_drewN | apply Kd.R_drew)); exact HO327.out)) k_ hn_)), Or.elim hk_ (fun hs_ => fun e_ => Nat.not_le.2 hs_ (by rw [e_]; exact GW321.out)) (fun hn_ => (Kd.freshB (g := gb321) (o := .cells #[.slice A0_0 l0_0.length c0_0, .int .i64 a0_1, .int .i64 a0_2] 26 (0, 0)) (by (with_reducible repeat (first | refine blk_drewN ?_ _ | refine blk_drew ?_ | refine blk_alloc ?_ _)); exact BK321.out) k_ hn_))⟩)) (below_size (by repeat (first | (with_reducible first | exact HB.out | apply below_alloc | apply pw_below_drewN | apply below_drew1 | refine below_set ?_ GE321.out) | exact HB.out)))); have n2_ := Aside0.mk (blk_below (g := gb321) (o := .cells #[.slice A0_0 l0_0.length c0_0, .int .i64 a0_1, .int .i64 a0_2] 26 (0, 0)) (by (with_reducible repeat (first | refine blk_drewN ?_ _ | refine blk_drew ?_ | refine blk_alloc ?_ _)); exact BK321.out) hb); have n3_ := Aside0.mk (below_step (by repeat (first | (with_reducible first | exact HB.out | apply below_alloc | apply pw_below_drewN | apply below_drew1 | refine below_set ?_ GE321.out) | exact HB.out)) hb); clear HO327; clear BK321; clear HB; have HO327 := n0_; have HO330 := n1_; have BK321 := n2_; have HB := n3_; clear n0_ n1_ n2_ n3_; (try clear hb); (try clear hb2); (try clear hk); (try clear hi); (try clear ho0)) | ((with_reducible refine gate_dst (N := 8) rfl ?_); (try (refine gate_guard (by rfl) ?_; dsimp only)); refine box_event ?hg (N := 8) ?hd (cs := #[.slice none 0 0, .int .i64 0, .int .i64 0]) (t := 26) ?hr ?_; (case hd => rfl); (case hg => rfl); (case hr => first | (go_simp; done) | (go_simp; rfl)); intro gb335 hg w65 hbox hb; have n0_ := Aside0.mk (Kd.R_below (by (with_reducible repeat (first | apply Kd.R_alloc | apply Kd.R_drewN | apply Kd.R_drew)); exact HO327.out) hb); have n1_ := Aside0.mk (Kd.V_below (Kd.V_elderB (by (with_reducible repeat (first | apply Kd.V_alloc | apply Kd.V_drewN | apply Kd.V_drew)); exact HO330.out) gb335 (Nat.le_of_eq hg.symm)) hb); have n2_ := Aside0.mk (blk_below (g := gb321) (o := .cells #[.slice A0_0 l0_0.length c0_0, .int .i64 a0_1, .int .i64 a0_2] 26 (0, 0)) (by (with_reducible repeat (first | refine blk_drewN ?_ _ | refine blk_drew ?_ | refine blk_alloc ?_ _)); exact BK321.out) hb); have n3_ := Aside0.mk (below_step (by repeat (first | (with_reducible first | exact HB.out | apply below_alloc | apply pw_below_drewN | apply below_drew1 | refine below_set ?_ GE321.out) | exact HB.out)) hb); have n4_ := Aside0.mk (hbox); have n5_ := Aside0.mk ((by rw [hg]; exact (below_size (by repeat (first | (with_reducible first | exact HB.out | apply below_alloc | apply pw_below_drewN | apply below_drew1 | refine below_set ?_ GE321.out) | exact HB.out))) : w.heap.size ≤ gb335)); have n6_ := Aside0.mk ((by rw [hg]; exact (below_size (by repeat (first | (with_reducible first | exact HB.out | apply below_alloc | apply pw_below_drewN | apply below_drew1 | refine below_set ?_ GE321.out) | exact HB.out))) : w.heap.size ≤ gb335)); have n7_ := Aside0.mk ((by rw [hg]; exact Nat.ne_of_lt (blk_lt (g := gb321) (o := .cells #[.slice A0_0 l0_0.length c0_0, .int .i64 a0_1, .int .i64 a0_2] 26 (0, 0)) (by (with_reducible repeat (first | refine blk_drewN ?_ _ | refine blk_drew ?_ | refine blk_alloc ?_ _)); exact BK321.out)) : gb321 ≠ gb335)); have n8_ := Aside0.mk ((by rw [hg]; exact Nat.ne_of_gt (blk_lt (g := gb321) (o := .cells #[.slice A0_0 l0_0.length c0_0, .int .i64 a0_1, .int .i64 a0_2] 26 (0, 0)) (by (with_reducible repeat (first | refine blk_drewN ?_ _ | refine blk_drew ?_ | refine blk_alloc ?_ _)); exact BK321.out)) : gb335 ≠ gb321)); clear HO327; clear HO330; clear BK321; clear HB; have HO327 := n0_; have HO330 := n1_; have BK321 := n2_; have HB := n3_; have BK335 := n4_; have GW335 := n5_; have GE335 := n6_; have NB321_335 := n7_; have NB335_321 := n8_; clear n0_ n1_ n2_ n3_ n4_ n5_ n6_ n7_ n8_; clear hb hbox hg; obtain ⟨Ao66, co66, eo66⟩ := Kd.V_slice HO330.out; subst eo66; have hnb67 := NB335_321.out; have hnc67 := NB321_335.out; have hcz68_0 : w65.cell? ⟨gb335, 0, none⟩ = some (.slice none 0 0) := (blk_cell BK335.out 0).trans rfl; have hcz68_1 : w65.cell? ⟨gb335, 1, none⟩ = some (.int .i64 0) := (blk_cell BK335.out 1).trans rfl; have hcz68_2 : w65.cell? ⟨gb335, 2, none⟩ = some (.int .i64 0) := (blk_cell BK335.out 2).trans rfl; have hfz68_0 := blk_frozen BK335.out 0; have hfz68_1 := blk_frozen BK335.out 1; have hfz68_2 := blk_frozen BK335.out 2) | ((with_reducible refine gate_callee (f := 29) rfl ?_); refine goesL_ (some 34) rfl rfl Try.func29 (by kernel_rfl) rfl #[.agg #[.slice Ao66 t328.length co66, .int .i64 t331, .int .i64 t332]] rfl (by (try simp only [List.map_toArray, List.map_cons, List.map_nil]); first | done | rfl | (simp only [List.length_drop, List.length_take]; rfl)) ?_; (with_reducible refine (store_Live.calls _ _ t328 t331 t332 t336 _ ?side1 ?side2 A19.out).mono ?_); (case side1 => refine (Kd.V_reads' (e := 82) (base := w.heap.size) (ok := fun k_ => ((some k_ ≠ (v326 : Value).ownBlock ∧ k_ ≠ gb321) ∧ k_ ≠ gb335)) (n := t328.length) (c := co66) ?_).2.2; exact (by (with_reducible repeat (first | apply Kd.V_alloc | apply Kd.V_drewN | apply Kd.V_drew)); exact (Kd.V_mono (Kd.V_far (p := ⟨gb335, 2, none⟩) (Kd.V_far (p := ⟨gb335, 1, none⟩) (Kd.V_far (p := ⟨gb335, 0, none⟩) (Kd.V_mono HO330.out (fun k_ hk => (⟨hk, hk.2⟩ : _ ∧ k_ ≠ gb335))) (fun _ hk => hk.2) (.slice Ao66 t328.length co66)) (fun _ hk => hk.2) (.int .i64 t331)) (fun _ hk => hk.2) (.int .i64 t332)) (fun _ h_ => h_.1)))); (case side2 => exact (Kd.V_reads' HO330.out).2.1); rintro e w69 ⟨v337, rfl, ho0, hb⟩; refine ⟨_, rfl, ?_⟩; have n0_ := Aside0.mk (Kd.R_elder' (by (with_reducible repeat (first | apply Kd.R_alloc | apply Kd.R_drewN | apply Kd.R_drew)); exact (Kd.R_mono (Kd.R_far (p := ⟨gb335, 2, none⟩) (Kd.R_far (p := ⟨gb335, 1, none⟩) (Kd.R_far (p := ⟨gb335, 0, none⟩) (Kd.R_types HO327.out BK335.out (by decide)) (fun _ hk => hk.2) (.slice Ao66 t328.length co66)) (fun _ hk => hk.2) (.int .i64 t331)) (fun _ hk => hk.2) (.int .i64 t332)) (fun _ h_ => h_.1))) (Kd.R_base ho0) hb); have n1_ := Aside0.mk (Kd.V_elder' (by (with_reducible repeat (first | apply Kd.V_alloc | apply Kd.V_drewN | apply Kd.V_drew)); exact (Kd.V_mono (Kd.V_far (p := ⟨gb335, 2, none⟩) (Kd.V_far (p := ⟨gb335, 1, none⟩) (Kd.V_far (p := ⟨gb335, 0, none⟩) (Kd.V_mono HO330.out (fun k_ hk => (⟨hk, hk.2⟩ : _ ∧ k_ ≠ gb335))) (fun _ hk => hk.2) (.slice Ao66 t328.length co66)) (fun _ hk => hk.2) (.int .i64 t331)) (fun _ hk => hk.2) (.int .i64 t332)) (fun _ h_ => h_.1))) (Kd.R_base ho0) hb); have n2_ := Aside0.mk (Kd.R_lower (Kd.R_new' ho0 (Kd.R_lt (by (with_reducible repeat (first | apply Kd.R_alloc | apply Kd.R_drewN | apply Kd.R_drew)); exact (Kd.R_mono (Kd.R_far (p := ⟨gb335, 2, none⟩) (Kd.R_far (p := ⟨gb335, 1, none⟩) (Kd.R_far (p := ⟨gb335, 0, none⟩) (Kd.R_types HO327.out BK335.out (by decide)) (fun _ hk => hk.2) (.slice Ao66 t328.length co66)) (fun _ hk => hk.2) (.int .i64 t331)) (fun _ hk => hk.2) (.int .i64 t332)) (fun _ h_ => h_.1))))) (below_size (by repeat (first | (with_reducible first | exact HB.out | apply below_alloc | apply pw_below_drewN | apply below_drew1 | refine below_set ?_ GE321.out | refine below_set ?_ GE335.out) | exact HB.out)))); have n3_ := Aside0.mk (blk_below (g := gb321) (o := .cells #[.slice A0_0 l0_0.length c0_0, .int .i64 a0_1, .int .i64 a0_2] 26 (0, 0)) (by (with_reducible repeat (first | refine blk_drewN ?_ _ | refine blk_drew ?_ | refine blk_alloc ?_ _)); refine blk_far ?_ NB321_335.out _; (with_reducible repeat (first | refine blk_drewN ?_ _ | refine blk_drew ?_ | refine blk_alloc ?_ _)); refine blk_far ?_ NB321_335.out _; (with_reducible repeat (first | refine blk_drewN ?_ _ | refine blk_drew ?_ | refine blk_alloc ?_ _)); refine blk_far ?_ NB321_335.out _; (with_reducible repeat (first | refine blk_drewN ?_ _ | refine blk_drew ?_ | refine blk_alloc ?_ _)); exact BK321.out) hb); have n4_ := Aside0.mk (blk_below (g := gb335) (o := .cells #[.slice Ao66 t328.length co66, .int .i64 t331, .int .i64 t332] 26 (0, 0)) (by (with_reducible repeat (first | refine blk_drewN ?_ _ | refine blk_drew ?_ | refine blk_alloc ?_ _)); refine blk_put (cs := #[.slice Ao66 t328.length co66, .int .i64 t331, .int .i64 0]) ?_ 2 _ rfl; (with_reducible repeat (first | refine blk_drewN ?_ _ | refine blk_drew ?_ | refine blk_alloc ?_ _)); refine blk_put (cs := #[.slice Ao66 t328.length co66, .int .i64 0, .int .i64 0]) ?_ 1 _ rfl; (with_reducible repeat (first | refine blk_drewN ?_ _ | refine blk_drew ?_ | refine blk_alloc ?_ _)); refine blk_put (cs := #[.slice none 0 0, .int .i64 0, .int .i64 0]) ?_ 0 _ rfl; (with_reducible repeat (first | refine blk_drewN ?_ _ | refine blk_drew ?_ | refine blk_alloc ?_ _)); exact BK335.out) hb); have n5_ := Aside0.mk (below_step (by repeat (first | (with_reducible first | exact HB.out | apply below_alloc | apply pw_below_drewN | apply below_drew1 | refine below_set ?_ GE321.out | refine below_set ?_ GE335.out) | exact HB.out)) hb); clear HO327; clear HO330; clear BK321; clear BK335; clear HB; have HO327 := n0_; have HO330 := n1_; have HO338 := n2_; have BK321 := n3_; have BK335 := n4_; have HB := n5_; clear n0_ n1_ n2_ n3_ n4_ n5_; (try clear hb); (try clear hb2); (try clear hk); (try clear hi); (try clear ho0)))
      have n0_ := Aside0.mk (Kd.R_drew HO327.out)
      have n1_ := Aside0.mk (Kd.V_drew HO330.out)
      have n2_ := Aside0.mk (Kd.R_drew HO338.out)
      have n3_ := Aside0.mk (blk_drew BK321.out)
      have n4_ := Aside0.mk (blk_drew BK335.out)
      have n5_ := Aside0.mk (below_drew1 HB.out)
      clear HO327
      clear HO330
      clear HO338
      clear BK321
      clear BK335
      clear HB
      have HO327 := n0_
      have HO330 := n1_
      have HO338 := n2_
      have BK321 := n3_
      have BK335 := n4_
      have HB := n5_
      clear n0_ n1_ n2_ n3_ n4_ n5_
      refine start_ (n := 10) (S := fun w' => w'.cell? ⟨gb335, 0, none⟩ = some (.slice Ao66 t328.length co66) ∧ w'.cell? ⟨gb335, 1, none⟩ = some (.int .i64 t331) ∧ w'.cell? ⟨gb335, 2, none⟩ = some (.int .i64 t332) ∧ w'.cell? ⟨gb321, 0, none⟩ = some (.slice A0_0 l0_0.length c0_0) ∧ w'.cell? ⟨gb321, 1, none⟩ = some (.int .i64 a0_1) ∧ w'.cell? ⟨gb321, 2, none⟩ = some (.int .i64 a0_2)) (ds := []) #[false, false, false, false, false, false, false, false, false, false] (by kernel_rfl) rfl rfl ⟨(blk_cell BK335.out 0).trans rfl, (blk_cell BK335.out 1).trans rfl, (blk_cell BK335.out 2).trans rfl, (blk_cell BK321.out 0).trans rfl, (blk_cell BK321.out 1).trans rfl, (blk_cell BK321.out 2).trans rfl⟩ (fun hHeld => ?_); refine with_tabW mortmainlaw06_StoreMakes.tab7 mortmainlaw06_StoreMakes.bits7 (fun HT_ HW_ => ?_)
      generalize w69.drew = w70 at HO327 HO330 HO338 BK321 BK335 HB hHeld ⊢
      refine pure_ (i := 0) (N := some 37) (v := ?_) (a' := ?_) #[true, false, false, false, false, false, false, false, false, false] rfl rfl (any_of HT_.out (by kernel_rfl)) (fun _ _ _ h => h) (Or.inl ⟨by rfl, ?_⟩) ?_ ?_
      rotate_left
      ·intro w'
       go_simp
       with_reducible rfl
      rotate_left
      ·simp only [Act.put, List.setIfInBounds_toArray, List.set_cons_zero, List.set_cons_succ, i64_w, i32_w]
       rfl
      refine pure_ (i := 1) (N := some 38) (v := ?_) (a' := ?_) #[true, true, false, false, false, false, false, false, false, false] rfl rfl (any_of HT_.out (by kernel_rfl)) (fun _ _ _ h => h) (Or.inl ⟨by rfl, ?_⟩) ?_ ?_
      rotate_left
      ·intro w'
       go_simp
       with_reducible rfl
      rotate_left
      ·simp only [Act.put, List.setIfInBounds_toArray, List.set_cons_zero, List.set_cons_succ, i64_w, i32_w]
       rfl
      refine pure_ (i := 2) (N := some 39) (v := ?_) (a' := ?_) #[true, true, true, false, false, false, false, false, false, false] rfl rfl (any_of HT_.out (by kernel_rfl)) (fun _ _ _ h => h) (Or.inl ⟨by rfl, ?_⟩) ?_ ?_
      rotate_left
      ·intro w'
       go_simp
       with_reducible rfl
      rotate_left
      ·simp only [Act.put, List.setIfInBounds_toArray, List.set_cons_zero, List.set_cons_succ, i64_w, i32_w]
       rfl
      refine take_ (i := 3) (N := some 40) (v := ?_) (a' := ?_) #[true, true, true, true, false, false, false, false, false, false] rfl rfl (take_ofW HT_.out HW_.out (by kernel_rfl)) (fun _ _ _ h => h) (Or.inl ⟨by rfl, ?_⟩) hHeld ?_ ?_
      rotate_left
      ·rintro w' ⟨s0, s1, s2, s3, s4, s5⟩
       try simp only [Int.toNat_natCast] at s0 s1 s2 s3 s4 s5
       go_simp
       with_reducible rfl
      rotate_left
      ·simp only [Act.put, List.setIfInBounds_toArray, List.set_cons_zero, List.set_cons_succ, i64_w, i32_w]
       rfl
      refine take_ (i := 5) (N := some 42) (v := ?_) (a' := ?_) #[true, true, true, true, false, true, false, false, false, false] rfl rfl (take_ofW HT_.out HW_.out (by kernel_rfl)) (fun _ _ _ h => h) (Or.inl ⟨by rfl, ?_⟩) hHeld ?_ ?_
      rotate_left
      ·rintro w' ⟨s0, s1, s2, s3, s4, s5⟩
       try simp only [Int.toNat_natCast] at s0 s1 s2 s3 s4 s5
       go_simp
       with_reducible rfl
      rotate_left
      ·simp only [Act.put, List.setIfInBounds_toArray, List.set_cons_zero, List.set_cons_succ, i64_w, i32_w]
       rfl
      refine one_ (i := 4) (N := some 41) #[true, true, true, true, true, true, false, false, false, false] rfl rfl (one_of HT_.out (by kernel_rfl)) (by decide) (fun K hK => ?_)
      refine goes_ Try.func19 (by kernel_rfl) rfl #[.agg #[.slice Ao66 t328.length co66, .int .i64 t331, .int .i64 t332]] (by rfl) rfl rfl (by (try simp only [List.map_toArray, List.map_cons, List.map_nil]); first | done | rfl | (simp only [List.length_drop, List.length_take]; rfl)) ?_
      with_reducible refine (mortmainlaw06_its.calls kj3 (fun k_ => (((some k_ ≠ (v326 : Value).ownBlock ∧ k_ ≠ gb321) ∧ k_ ≠ gb335) ∧ some k_ ≠ (v337 : Value).ownBlock)) _ _ t328 t331 t332 t356 t359 t360 _ ?side1 A58.out).mono ?_
      (case side1 => exact HO330.out)
      rintro e w71 ⟨v357, rfl, ho0, hb⟩
      refine ⟨_, rfl, ?_⟩
      have n0_ := Aside0.mk (Kd.R_below (by (with_reducible repeat (first | apply Kd.R_alloc | apply Kd.R_drewN | apply Kd.R_drew)); exact HO327.out) hb)
      have n1_ := Aside0.mk (Kd.V_elder' (by (with_reducible repeat (first | apply Kd.V_alloc | apply Kd.V_drewN | apply Kd.V_drew)); exact HO330.out) (by first | exact Kd.N_base ho0 | exact Kd.S_base ho0) hb)
      have n2_ := Aside0.mk (Kd.R_below (by (with_reducible repeat (first | apply Kd.R_alloc | apply Kd.R_drewN | apply Kd.R_drew)); exact HO338.out) hb)
      have n3_ := Aside0.mk (Kd.N_lower (Kd.N_mono (ok' := fun k_ => some k_ ≠ (v326 : Value).ownBlock ∧ some k_ ≠ (v337 : Value).ownBlock ∧ k_ ≠ gb321 ∧ k_ ≠ gb335) ho0 (fun k_ hk_ => ⟨Or.elim hk_ (fun hs_ => hs_.1.1.1) (fun hn_ => (Kd.fresh' (Kd.R_lt (by (with_reducible repeat (first | apply Kd.R_alloc | apply Kd.R_drewN | apply Kd.R_drew)); exact HO327.out)) k_ hn_)), Or.elim hk_ (fun hs_ => hs_.2) (fun hn_ => (Kd.fresh' (Kd.R_lt (by (with_reducible repeat (first | apply Kd.R_alloc | apply Kd.R_drewN | apply Kd.R_drew)); exact HO338.out)) k_ hn_)), Or.elim hk_ (fun hs_ => hs_.1.1.2) (fun hn_ => (Kd.freshB (g := gb321) (o := .cells #[.slice A0_0 l0_0.length c0_0, .int .i64 a0_1, .int .i64 a0_2] 26 (0, 0)) (by (with_reducible repeat (first | refine blk_drewN ?_ _ | refine blk_drew ?_ | refine blk_alloc ?_ _)); exact BK321.out) k_ hn_)), Or.elim hk_ (fun hs_ => hs_.1.2) (fun hn_ => (Kd.freshB (g := gb335) (o := .cells #[.slice Ao66 t328.length co66, .int .i64 t331, .int .i64 t332] 26 (0, 0)) (by (with_reducible repeat (first | refine blk_drewN ?_ _ | refine blk_drew ?_ | refine blk_alloc ?_ _)); exact BK335.out) k_ hn_))⟩)) (below_size (by repeat (first | (with_reducible first | exact HB.out | apply below_alloc | apply pw_below_drewN | apply below_drew1 | refine below_set ?_ GE321.out | refine below_set ?_ GE335.out) | exact HB.out))))
      have n4_ := Aside0.mk (blk_below (g := gb321) (o := .cells #[.slice A0_0 l0_0.length c0_0, .int .i64 a0_1, .int .i64 a0_2] 26 (0, 0)) (by (with_reducible repeat (first | refine blk_drewN ?_ _ | refine blk_drew ?_ | refine blk_alloc ?_ _)); exact BK321.out) hb)
      have n5_ := Aside0.mk (blk_below (g := gb335) (o := .cells #[.slice Ao66 t328.length co66, .int .i64 t331, .int .i64 t332] 26 (0, 0)) (by (with_reducible repeat (first | refine blk_drewN ?_ _ | refine blk_drew ?_ | refine blk_alloc ?_ _)); exact BK335.out) hb)
      have n6_ := Aside0.mk (below_step (by repeat (first | (with_reducible first | exact HB.out | apply below_alloc | apply pw_below_drewN | apply below_drew1 | refine below_set ?_ GE321.out | refine below_set ?_ GE335.out) | exact HB.out)) hb)
      clear HO327
      clear HO330
      clear HO338
      clear BK321
      clear BK335
      clear HB
      have HO327 := n0_
      have HO330 := n1_
      have HO338 := n2_
      have HO358 := n3_
      have BK321 := n4_
      have BK335 := n5_
      have HB := n6_
      clear n0_ n1_ n2_ n3_ n4_ n5_ n6_
      (try clear hb)
      (try clear hb2)
      (try clear hk)
      (try clear hi)
      (try clear ho0)
      refine hK.out _ _ ⟨(blk_cell BK335.out 0).trans rfl, (blk_cell BK335.out 1).trans rfl, (blk_cell BK335.out 2).trans rfl, (blk_cell BK321.out 0).trans rfl, (blk_cell BK321.out 1).trans rfl, (blk_cell BK321.out 2).trans rfl⟩ (fun hHeld => ?_)
      clear hK K
      refine norm_ (a' := ?_) ?_ ?_
      rotate_left
      ·show Act.put _ (some 41) _ = _
       simp only [Act.put, List.setIfInBounds_toArray, List.set_cons_zero, List.set_cons_succ, i64_w, i32_w]
       rfl
      refine one_ (i := 6) (N := some 43) #[true, true, true, true, true, true, true, false, false, false] rfl rfl (one_of HT_.out (by kernel_rfl)) (by decide) (fun K hK => ?_)
      refine goes_ Try.func19 (by kernel_rfl) rfl #[.agg #[.slice A0_0 l0_0.length c0_0, .int .i64 a0_1, .int .i64 a0_2]] (by rfl) rfl rfl (by (try simp only [List.map_toArray, List.map_cons, List.map_nil]); first | done | rfl | (simp only [List.length_drop, List.length_take]; rfl)) ?_
      with_reducible refine (mortmainlaw06_its.calls kj3 (fun k_ => k_ < w.heap.size) _ _ l0_0 a0_1 a0_2 t361 t364 t365 _ ?side1 A59.out).mono ?_
      (case side1 => exact Kd.V_mk HC0_0.out (Kd.F_below (Kd.C_F k82_heap HR0_0.out) (by repeat (first | (with_reducible first | exact HB.out | apply below_alloc | apply pw_below_drewN | apply below_drew1 | refine below_set ?_ GE321.out | refine below_set ?_ GE335.out) | exact HB.out))))
      rintro e w72 ⟨v362, rfl, ho0, hb⟩
      refine ⟨_, rfl, ?_⟩
      have n0_ := Aside0.mk (Kd.R_below (by (with_reducible repeat (first | apply Kd.R_alloc | apply Kd.R_drewN | apply Kd.R_drew)); exact HO327.out) hb)
      have n1_ := Aside0.mk (Kd.V_elder' (by (with_reducible repeat (first | apply Kd.V_alloc | apply Kd.V_drewN | apply Kd.V_drew)); exact HO330.out) (by first | exact Kd.N_base ho0 | exact Kd.S_base ho0) hb)
      have n2_ := Aside0.mk (Kd.R_below (by (with_reducible repeat (first | apply Kd.R_alloc | apply Kd.R_drewN | apply Kd.R_drew)); exact HO338.out) hb)
      have n3_ := Aside0.mk (Kd.N_elder' (by (with_reducible repeat (first | apply Kd.N_alloc | apply Kd.N_drewN | apply Kd.N_drew)); exact HO358.out) (by first | exact Kd.N_base ho0 | exact Kd.S_base ho0) hb)
      have n4_ := Aside0.mk (Kd.N_lower (Kd.N_mono (ok' := fun k_ => some k_ ≠ (v326 : Value).ownBlock ∧ some k_ ≠ (v337 : Value).ownBlock ∧ some k_ ≠ (v357 : Value).ownBlock ∧ k_ ≠ gb321 ∧ k_ ≠ gb335) ho0 (fun k_ hk_ => ⟨Or.elim hk_ (fun hs_ => fun e_ => Nat.not_le.2 hs_ (Kd.R_base HO327.out k_ e_.symm)) (fun hn_ => (Kd.fresh' (Kd.R_lt (by (with_reducible repeat (first | apply Kd.R_alloc | apply Kd.R_drewN | apply Kd.R_drew)); exact HO327.out)) k_ hn_)), Or.elim hk_ (fun hs_ => fun e_ => Nat.not_le.2 hs_ (Kd.R_base HO338.out k_ e_.symm)) (fun hn_ => (Kd.fresh' (Kd.R_lt (by (with_reducible repeat (first | apply Kd.R_alloc | apply Kd.R_drewN | apply Kd.R_drew)); exact HO338.out)) k_ hn_)), Or.elim hk_ (fun hs_ => fun e_ => Nat.not_le.2 hs_ (Kd.N_base HO358.out k_ e_.symm)) (fun hn_ => (Kd.fresh' (Kd.N_lt (by (with_reducible repeat (first | apply Kd.N_alloc | apply Kd.N_drewN | apply Kd.N_drew)); exact HO358.out)) k_ hn_)), Or.elim hk_ (fun hs_ => fun e_ => Nat.not_le.2 hs_ (by rw [e_]; exact GW321.out)) (fun hn_ => (Kd.freshB (g := gb321) (o := .cells #[.slice A0_0 l0_0.length c0_0, .int .i64 a0_1, .int .i64 a0_2] 26 (0, 0)) (by (with_reducible repeat (first | refine blk_drewN ?_ _ | refine blk_drew ?_ | refine blk_alloc ?_ _)); exact BK321.out) k_ hn_)), Or.elim hk_ (fun hs_ => fun e_ => Nat.not_le.2 hs_ (by rw [e_]; exact GW335.out)) (fun hn_ => (Kd.freshB (g := gb335) (o := .cells #[.slice Ao66 t328.length co66, .int .i64 t331, .int .i64 t332] 26 (0, 0)) (by (with_reducible repeat (first | refine blk_drewN ?_ _ | refine blk_drew ?_ | refine blk_alloc ?_ _)); exact BK335.out) k_ hn_))⟩)) (below_size (by repeat (first | (with_reducible first | exact HB.out | apply below_alloc | apply pw_below_drewN | apply below_drew1 | refine below_set ?_ GE321.out | refine below_set ?_ GE335.out) | exact HB.out))))
      have n5_ := Aside0.mk (blk_below (g := gb321) (o := .cells #[.slice A0_0 l0_0.length c0_0, .int .i64 a0_1, .int .i64 a0_2] 26 (0, 0)) (by (with_reducible repeat (first | refine blk_drewN ?_ _ | refine blk_drew ?_ | refine blk_alloc ?_ _)); exact BK321.out) hb)
      have n6_ := Aside0.mk (blk_below (g := gb335) (o := .cells #[.slice Ao66 t328.length co66, .int .i64 t331, .int .i64 t332] 26 (0, 0)) (by (with_reducible repeat (first | refine blk_drewN ?_ _ | refine blk_drew ?_ | refine blk_alloc ?_ _)); exact BK335.out) hb)
      have n7_ := Aside0.mk (below_step (by repeat (first | (with_reducible first | exact HB.out | apply below_alloc | apply pw_below_drewN | apply below_drew1 | refine below_set ?_ GE321.out | refine below_set ?_ GE335.out) | exact HB.out)) hb)
      clear HO327
      clear HO330
      clear HO338
      clear HO358
      clear BK321
      clear BK335
      clear HB
      have HO327 := n0_
      have HO330 := n1_
      have HO338 := n2_
      have HO358 := n3_
      have HO363 := n4_
      have BK321 := n5_
      have BK335 := n6_
      have HB := n7_
      clear n0_ n1_ n2_ n3_ n4_ n5_ n6_ n7_
      (try clear hb)
      (try clear hb2)
      (try clear hk)
      (try clear hi)
      (try clear ho0)
      obtain ⟨Ao73, co73, eo73⟩ := Kd.N_slice HO358.out
      (first | subst eo73 | (injection eo73 with f1_ f2_ f3_; have f4_ := f1_.symm; have f5_ := f3_.symm; clear f1_ f2_ f3_; subst f4_; subst f5_))
      obtain ⟨Ao74, co74, eo74⟩ := Kd.N_slice HO363.out
      (first | subst eo74 | (injection eo74 with f1_ f2_ f3_; have f4_ := f1_.symm; have f5_ := f3_.symm; clear f1_ f2_ f3_; subst f4_; subst f5_))
      refine hK.out _ _ ⟨(blk_cell BK335.out 0).trans rfl, (blk_cell BK335.out 1).trans rfl, (blk_cell BK335.out 2).trans rfl, (blk_cell BK321.out 0).trans rfl, (blk_cell BK321.out 1).trans rfl, (blk_cell BK321.out 2).trans rfl⟩ (fun hHeld => ?_)
      clear hK K
      refine norm_ (a' := ?_) ?_ ?_
      rotate_left
      ·show Act.put _ (some 43) _ = _
       simp only [Act.put, List.setIfInBounds_toArray, List.set_cons_zero, List.set_cons_succ, i64_w, i32_w]
       rfl
      refine one_ (i := 7) (N := some 44) #[true, true, true, true, true, true, true, true, false, false] rfl rfl (one_of HT_.out (by kernel_rfl)) (by decide) (fun K hK => ?_)
      refine goes_ Try.func21 (by kernel_rfl) rfl #[.agg #[.slice Ao73 t356.length co73, .int .i64 t359, .int .i64 t360], .agg #[.slice Ao74 t361.length co74, .int .i64 t364, .int .i64 t365]] (by rfl) rfl rfl (by (try simp only [List.map_toArray, List.map_cons, List.map_nil]); first | done | rfl | (simp only [List.length_drop, List.length_take]; rfl)) ?_
      with_reducible refine (mortmainref06_Same.calls kj3 _ _ t356 t359 t360 _ _ t361 t364 t365 t366 _ ?side1 ?side2 ?side3 ?side4 A60.out).mono ?_
      (case side1 => repeat (first | exact (Kd.N_reads' HO358.out).2.2 | (with_reducible refine Kd.C_alloc ?_ _) | (with_reducible refine Kd.C_drewN ?_ _) | (with_reducible refine Kd.C_drew ?_)))
      (case side2 => exact (Kd.N_reads' HO358.out).2.1)
      (case side3 => repeat (first | exact (Kd.N_reads' HO363.out).2.2 | (with_reducible refine Kd.C_alloc ?_ _) | (with_reducible refine Kd.C_drewN ?_ _) | (with_reducible refine Kd.C_drew ?_)))
      (case side4 => exact (Kd.N_reads' HO363.out).2.1)
      rintro e w75 ⟨rfl, hb⟩
      refine ⟨_, rfl, ?_⟩
      have n0_ := Aside0.mk (Kd.R_below (by (with_reducible repeat (first | apply Kd.R_alloc | apply Kd.R_drewN | apply Kd.R_drew)); exact HO327.out) hb)
      have n1_ := Aside0.mk (Kd.V_below (by (with_reducible repeat (first | apply Kd.V_alloc | apply Kd.V_drewN | apply Kd.V_drew)); exact HO330.out) hb)
      have n2_ := Aside0.mk (Kd.R_below (by (with_reducible repeat (first | apply Kd.R_alloc | apply Kd.R_drewN | apply Kd.R_drew)); exact HO338.out) hb)
      have n3_ := Aside0.mk (Kd.N_below (by (with_reducible repeat (first | apply Kd.N_alloc | apply Kd.N_drewN | apply Kd.N_drew)); exact HO358.out) hb)
      have n4_ := Aside0.mk (Kd.N_below (by (with_reducible repeat (first | apply Kd.N_alloc | apply Kd.N_drewN | apply Kd.N_drew)); exact HO363.out) hb)
      have n5_ := Aside0.mk (blk_below (g := gb321) (o := .cells #[.slice A0_0 l0_0.length c0_0, .int .i64 a0_1, .int .i64 a0_2] 26 (0, 0)) (by (with_reducible repeat (first | refine blk_drewN ?_ _ | refine blk_drew ?_ | refine blk_alloc ?_ _)); exact BK321.out) hb)
      have n6_ := Aside0.mk (blk_below (g := gb335) (o := .cells #[.slice Ao66 t328.length co66, .int .i64 t331, .int .i64 t332] 26 (0, 0)) (by (with_reducible repeat (first | refine blk_drewN ?_ _ | refine blk_drew ?_ | refine blk_alloc ?_ _)); exact BK335.out) hb)
      have n7_ := Aside0.mk (below_step (by repeat (first | (with_reducible first | exact HB.out | apply below_alloc | apply pw_below_drewN | apply below_drew1 | refine below_set ?_ GE321.out | refine below_set ?_ GE335.out) | exact HB.out)) hb)
      clear HO327
      clear HO330
      clear HO338
      clear HO358
      clear HO363
      clear BK321
      clear BK335
      clear HB
      have HO327 := n0_
      have HO330 := n1_
      have HO338 := n2_
      have HO358 := n3_
      have HO363 := n4_
      have BK321 := n5_
      have BK335 := n6_
      have HB := n7_
      clear n0_ n1_ n2_ n3_ n4_ n5_ n6_ n7_
      (try clear hb)
      (try clear hb2)
      (try clear hk)
      (try clear hi)
      refine hK.out _ _ ⟨(blk_cell BK335.out 0).trans rfl, (blk_cell BK335.out 1).trans rfl, (blk_cell BK335.out 2).trans rfl, (blk_cell BK321.out 0).trans rfl, (blk_cell BK321.out 1).trans rfl, (blk_cell BK321.out 2).trans rfl⟩ (fun hHeld => ?_)
      clear hK K
      refine norm_ (a' := ?_) ?_ ?_
      rotate_left
      ·show Act.put _ (some 44) _ = _
       simp only [Act.put, List.setIfInBounds_toArray, List.set_cons_zero, List.set_cons_succ, i64_w, i32_w]
       rfl
      refine pure_ (i := 8) (N := some 45) (v := ?_) (a' := ?_) #[true, true, true, true, true, true, true, true, true, false] rfl rfl (any_of HT_.out (by kernel_rfl)) (fun _ _ _ h => h) (Or.inl ⟨by rfl, ?_⟩) ?_ ?_
      rotate_left
      ·intro w'
       go_simp
       with_reducible rfl
      rotate_left
      ·simp only [Act.put, List.setIfInBounds_toArray, List.set_cons_zero, List.set_cons_succ, i64_w, i32_w]
       rfl
      refine pure_ (i := 9) (N := some 6) (v := ?_) (a' := ?_) #[true, true, true, true, true, true, true, true, true, true] rfl rfl (any_of HT_.out (by kernel_rfl)) (fun _ _ _ h => h) (Or.inl ⟨by rfl, ?_⟩) ?_ ?_
      rotate_left
      ·intro w'
       go_simp
       with_reducible rfl
      rotate_left
      ·simp only [Act.put, List.setIfInBounds_toArray, List.set_cons_zero, List.set_cons_succ, i64_w, i32_w]
       rfl
      refine done_ (done_of HT_.out (by kernel_rfl)) ?_
      try go_wp2
      go_ret
      exact ⟨by first | rfl | (simp [errW_none, errW_some] <;> rfl) | (simp [*, errW_none, errW_some] <;> rfl), by repeat (first | (with_reducible first | exact HB.out | apply below_alloc | apply pw_below_drewN | apply below_drew1 | refine below_set ?_ GE321.out | refine below_set ?_ GE335.out) | exact HB.out)⟩
     ·rw [if_neg c57] at H
      have c57b0 : (t333 == 0) = false := beq_eq_false_iff_ne.mpr c57
      have c57b1 : (t333 != 0) = true := bne_iff_ne.mpr c57
      exact absurd H (by simp)

end Go.Proofs.Ytkmjboeabmmecaa.MAll
