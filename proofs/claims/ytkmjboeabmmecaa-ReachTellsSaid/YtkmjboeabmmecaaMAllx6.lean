/- The functions that the law reaches in plain Lean, and that the calls come to what these say. No condition. (By wip/myprint.py, this session's program over the kit's print.) -/
import Derived.Test.YtkmjboeabmmecaaMAllx2
import Derived.Test.YtkmjboeabmmecaaMAllx5
namespace Go.Proofs.Ytkmjboeabmmecaa.MAll
open Go.RowKit Go.Proofs.YtkmjboeabmmecaaW.PrintWords Go.Proofs.YtkmjboeabmmecaaW.PrintLast Go.Proofs.YtkmjboeabmmecaaW.PrintMore
attribute [local go_sem] max2_int min2_int max_two min_two max_three min_three max_four min_four
set_option linter.unusedVariables false
set_option linter.unusedSimpArgs false
def mortmainref03_Find.j0 : Nat → Int → Int → Bool → List (S120) → Int → Option (Int × Int)
 | 0, _, _, _, _, _ => none
 | k + 1, x1, x6, x20, x147000, x147001 => if x20 = true then (some ((-1), 3)) else (if 0 ≤ x6 then (if x6 < (x147000.length : Int) then ((mortmainref01_Gen.f x1).bind fun t150 => (if ((rd_T120 x147000 x6).f1) = t150 then (if ((rd_T120 x147000 x6).f0) = 1 then (some (x6, 0)) else (if ((rd_T120 x147000 x6).f0) = 2 then (some (x6, 0)) else (some ((-1), 3)))) else (some ((-1), 3)))) else (none)) else (none))
def mortmainref03_Find.f (k : Nat) (l0_0 : List (S120)) (a0_1 : Int) (a1 : Int) : Option (Int × Int) := if a1 = 0 then (some ((-1), 2)) else ((mortmainref01_Slot.f a1).bind fun t147 => (if t147 < 0 then (mortmainref03_Find.j0 k a1 t147 true l0_0 a0_1) else (mortmainref03_Find.j0 k a1 t147 (decide (t147 ≥ (l0_0.length : Int))) l0_0 a0_1)))
theorem mortmainref03_Find.mono_l : ∀ k, (∀ y0 y1 y2 y3 y4, LeO (mortmainref03_Find.j0 k y0 y1 y2 y3 y4) (mortmainref03_Find.j0 (k + 1) y0 y1 y2 y3 y4))
 | 0 => fun _ _ _ _ _ r h => by simp [mortmainref03_Find.j0] at h
 | k + 1 => by
  have ih0 := mortmainref03_Find.mono_l k
  ·intro y0 y1 y2 y3 y4
   unfold mortmainref03_Find.j0
   repeat' first
   | (with_reducible exact ih0 _ _ _ _ _)
   | (with_reducible exact LeO.refl _)
   | (with_reducible exact LeO.none _)
   | (with_reducible refine LeO.ite ?_ ?_)
   | (with_reducible refine LeO.bind ?_ (fun _ => ?_))
   | exact ih0 _ _ _ _ _
   | exact LeO.none _
   | refine LeO.ite ?_ ?_
   | refine LeO.bind ?_ (fun _ => ?_)
theorem mortmainref03_Find.mono : ∀ a0 a1 a2 k, LeO (mortmainref03_Find.f k a0 a1 a2) (mortmainref03_Find.f (k + 1) a0 a1 a2) := by
 intro a0 a1 a2 k
 have ih0 := mortmainref03_Find.mono_l k
 unfold mortmainref03_Find.f
 repeat' first
   | (with_reducible exact ih0 _ _ _ _ _)
   | (with_reducible exact LeO.refl _)
   | (with_reducible exact LeO.none _)
   | (with_reducible refine LeO.ite ?_ ?_)
   | (with_reducible refine LeO.bind ?_ (fun _ => ?_))
   | exact ih0 _ _ _ _ _
   | exact LeO.none _
   | refine LeO.ite ?_ ?_
   | refine LeO.bind ?_ (fun _ => ?_)
set_option maxHeartbeats 8000000 in
set_option maxRecDepth 100000 in
theorem mortmainref03_Find.calls (k : Nat) (A0_0 : Option Addr) (c0_0 : Nat) (l0_0 : List (S120)) (a0_1 : Int) (a1 : Int) (r1 : Int) (r2 : Int) (w : World) (hr0_0 : Kd.C k120 w A0_0 l0_0.length l0_0) (hc0_0 : l0_0.length ≤ c0_0) (h : mortmainref03_Find.f k l0_0 a0_1 a1 = some (r1, r2)) :
  Calls Try.prog 56 #[.agg #[.slice A0_0 l0_0.length c0_0, .int .i64 a0_1], .int .i64 a1] w fun e w' => e = .returned (.tuple #[.int .i64 r1, .int .i64 r2]) ∧ Below w.heap.size w w' := by
 have hu78 := Try.underlying78
 have hu120 := Try.underlying120
 have HR0_0 := Aside0.mk hr0_0
 have HC0_0 := Aside0.mk hc0_0
 clear hr0_0 hc0_0
 have HB := Aside0.mk (Below.refl w.heap.size w)
 have H : (if a1 = 0 then (some ((-1), 2)) else ((mortmainref01_Slot.f a1).bind fun t147 => (if t147 < 0 then (mortmainref03_Find.j0 k a1 t147 true l0_0 a0_1) else (mortmainref03_Find.j0 k a1 t147 (decide (t147 ≥ (l0_0.length : Int))) l0_0 a0_1)))) = some (r1, r2) := h
 clear h
 by_cases c3 : a1 = 0
 ·rw [if_pos c3] at H
  have c3b0 : (a1 == 0) = true := beq_iff_eq.mpr c3
  have c3b1 : (a1 != 0) = false := bne_eq_false_iff_eq.mpr c3
  clear c3
  simp only [Option.some.injEq, Prod.mk.injEq] at H
  obtain ⟨rfl, rfl⟩ := H
  go_enter Try.func56, Try.ntmps56
  go_wp2_with (first | ((with_reducible refine gate_dst (N := 2) rfl ?_); (try (refine gate_guard (by rfl) ?_; dsimp only)); refine box_event ?hg (N := 2) ?hd (cs := #[.slice A0_0 l0_0.length c0_0, .int .i64 a0_1]) (t := 78) ?hr ?_; (case hd => rfl); (case hg => rfl); (case hr => first | (go_simp; done) | (go_simp; rfl)); intro gb146 hg w4 hbox hb; have n0_ := Aside0.mk (below_step bT hb); have n1_ := Aside0.mk (hbox); have n2_ := Aside0.mk (gT hg bT); have n3_ := Aside0.mk (gT hg bT); clear HB; have HB := n0_; have BK146 := n1_; have GW146 := n2_; have GE146 := n3_; clear n0_ n1_ n2_ n3_; clear hb hbox hg))
  repeat (go_quiet (first | ((with_reducible refine gate_dst (N := 2) rfl ?_); (try (refine gate_guard (by rfl) ?_; dsimp only)); refine box_event ?hg (N := 2) ?hd (cs := #[.slice A0_0 l0_0.length c0_0, .int .i64 a0_1]) (t := 78) ?hr ?_; (case hd => rfl); (case hg => rfl); (case hr => first | (go_simp; done) | (go_simp; rfl)); intro gb146 hg w4 hbox hb; have n0_ := Aside0.mk (below_step bT hb); have n1_ := Aside0.mk (hbox); have n2_ := Aside0.mk (gT hg bT); have n3_ := Aside0.mk (gT hg bT); clear HB; have HB := n0_; have BK146 := n1_; have GW146 := n2_; have GE146 := n3_; clear n0_ n1_ n2_ n3_; clear hb hbox hg)); try go_wp2_with (first | ((with_reducible refine gate_dst (N := 2) rfl ?_); (try (refine gate_guard (by rfl) ?_; dsimp only)); refine box_event ?hg (N := 2) ?hd (cs := #[.slice A0_0 l0_0.length c0_0, .int .i64 a0_1]) (t := 78) ?hr ?_; (case hd => rfl); (case hg => rfl); (case hr => first | (go_simp; done) | (go_simp; rfl)); intro gb146 hg w4 hbox hb; have n0_ := Aside0.mk (below_step bT hb); have n1_ := Aside0.mk (hbox); have n2_ := Aside0.mk (gT hg bT); have n3_ := Aside0.mk (gT hg bT); clear HB; have HB := n0_; have BK146 := n1_; have GW146 := n2_; have GE146 := n3_; clear n0_ n1_ n2_ n3_; clear hb hbox hg)))
  go_ret2
  exact ⟨by first | rfl | (simp [errW_none, errW_some] <;> rfl) | (simp [*, errW_none, errW_some] <;> rfl), by repeat (first | (with_reducible first | exact HB.out | apply below_alloc | apply pw_below_drewN | apply below_drew1 | refine below_set ?_ GE146.out) | exact HB.out)⟩
 ·rw [if_neg c3] at H
  have c3b0 : (a1 == 0) = false := beq_eq_false_iff_ne.mpr c3
  have c3b1 : (a1 != 0) = true := bne_iff_ne.mpr c3
  replace H := Option.bind_eq_some_iff.mp H
  obtain ⟨t147, A50, H⟩ := H
  replace H : (if t147 < 0 then (mortmainref03_Find.j0 k a1 t147 true l0_0 a0_1) else (mortmainref03_Find.j0 k a1 t147 (decide (t147 ≥ (l0_0.length : Int))) l0_0 a0_1)) = some (r1, r2) := H
  have A5 := Aside0.mk A50
  clear A50
  have HC6 := Aside0.mk H
  clear H
  go_enter Try.func56, Try.ntmps56
  go_upto_region 4 with (first | ((with_reducible refine gate_dst (N := 2) rfl ?_); (try (refine gate_guard (by rfl) ?_; dsimp only)); refine box_event ?hg (N := 2) ?hd (cs := #[.slice A0_0 l0_0.length c0_0, .int .i64 a0_1]) (t := 78) ?hr ?_; (case hd => rfl); (case hg => rfl); (case hr => first | (go_simp; done) | (go_simp; rfl)); intro gb146 hg w7 hbox hb; have n0_ := Aside0.mk (below_step bT hb); have n1_ := Aside0.mk (hbox); have n2_ := Aside0.mk (gT hg bT); have n3_ := Aside0.mk (gT hg bT); clear HB; have HB := n0_; have BK146 := n1_; have GW146 := n2_; have GE146 := n3_; clear n0_ n1_ n2_ n3_; clear hb hbox hg) | (go_at_call 92; (with_reducible refine (mortmainref01_Slot.calls a1 t147 _ A5.out).mono ?_); rintro e w' ⟨rfl, ⟨nd, rfl⟩⟩; (try first | exact ⟨rfl, _, World.drewN_drewN _ _ _⟩ | exact ⟨rfl, _, Eq.trans (World.drewN_drewN _ _ _) (congrArg (World.drewN _) (Nat.add_assoc _ _ _))⟩)))
  repeat (go_quiet (first | ((with_reducible refine gate_dst (N := 2) rfl ?_); (try (refine gate_guard (by rfl) ?_; dsimp only)); refine box_event ?hg (N := 2) ?hd (cs := #[.slice A0_0 l0_0.length c0_0, .int .i64 a0_1]) (t := 78) ?hr ?_; (case hd => rfl); (case hg => rfl); (case hr => first | (go_simp; done) | (go_simp; rfl)); intro gb146 hg w7 hbox hb; have n0_ := Aside0.mk (below_step bT hb); have n1_ := Aside0.mk (hbox); have n2_ := Aside0.mk (gT hg bT); have n3_ := Aside0.mk (gT hg bT); clear HB; have HB := n0_; have BK146 := n1_; have GW146 := n2_; have GE146 := n3_; clear n0_ n1_ n2_ n3_; clear hb hbox hg) | (go_at_call 92; (with_reducible refine (mortmainref01_Slot.calls a1 t147 _ A5.out).mono ?_); rintro e w' ⟨rfl, ⟨nd, rfl⟩⟩; (try first | exact ⟨rfl, _, World.drewN_drewN _ _ _⟩ | exact ⟨rfl, _, Eq.trans (World.drewN_drewN _ _ _) (congrArg (World.drewN _) (Nat.add_assoc _ _ _))⟩))); go_upto_region 4 with (first | ((with_reducible refine gate_dst (N := 2) rfl ?_); (try (refine gate_guard (by rfl) ?_; dsimp only)); refine box_event ?hg (N := 2) ?hd (cs := #[.slice A0_0 l0_0.length c0_0, .int .i64 a0_1]) (t := 78) ?hr ?_; (case hd => rfl); (case hg => rfl); (case hr => first | (go_simp; done) | (go_simp; rfl)); intro gb146 hg w7 hbox hb; have n0_ := Aside0.mk (below_step bT hb); have n1_ := Aside0.mk (hbox); have n2_ := Aside0.mk (gT hg bT); have n3_ := Aside0.mk (gT hg bT); clear HB; have HB := n0_; have BK146 := n1_; have GW146 := n2_; have GE146 := n3_; clear n0_ n1_ n2_ n3_; clear hb hbox hg) | (go_at_call 92; (with_reducible refine (mortmainref01_Slot.calls a1 t147 _ A5.out).mono ?_); rintro e w' ⟨rfl, ⟨nd, rfl⟩⟩; (try first | exact ⟨rfl, _, World.drewN_drewN _ _ _⟩ | exact ⟨rfl, _, Eq.trans (World.drewN_drewN _ _ _) (congrArg (World.drewN _) (Nat.add_assoc _ _ _))⟩))))
  (try simp only [Act.put, q1, q2, q3])
  go_cut [20] (fun v20 wc => ∃ (kq : Nat) (x20_5 : Bool), v20 = .bool x20_5 ∧ Aside0 (mortmainref03_Find.j0 kq a1 t147 x20_5 l0_0 a0_1 = some (r1, r2)) ∧ Aside0 (kq ≤ k) ∧ Aside0 (wc.heap[gb146]? = some (.cells #[(.slice A0_0 l0_0.length c0_0), .int .i64 a0_1] 78 (0, 0))) ∧ Aside0 (Below w.heap.size w wc))
  case first =>
   have H := HC6.out
   clear HC6
   by_cases c8 : t147 < 0
   ·rw [if_pos c8] at H
    have c8b0 : decide (t147 < 0) = true := decide_eq_true c8
    clear c8
    (first | rw [c8b0] | (simp only [i64_w, i32_w]; rw [c8b0]) | skip)
    have H' := Aside0.mk H
    clear H
    go_wp2
    repeat (go_quiet (fail); try go_wp2)
    go_meet
    case rel => exact ⟨_, (true), (by first | rfl | (simp; done) | (simp [*]; done)), H', ⟨by first | omega | exact Nat.le_refl _⟩, ⟨by (with_reducible repeat (first | refine blk_drewN ?_ _ | refine blk_drew ?_ | refine blk_alloc ?_ _)); exact BK146.out⟩, ⟨by repeat (first | (with_reducible first | exact HB.out | apply below_alloc | apply pw_below_drewN | apply below_drew1 | refine below_set ?_ GE146.out) | exact HB.out)⟩⟩
   ·rw [if_neg c8] at H
    have c8b0 : decide (t147 < 0) = false := decide_eq_false c8
    clear c8
    (first | rw [c8b0] | (simp only [i64_w, i32_w]; rw [c8b0]) | skip)
    have H' := Aside0.mk H
    clear H
    have hcz9_0 : w7.cell? ⟨gb146, 0, none⟩ = some (.slice A0_0 l0_0.length c0_0) := (blk_cell BK146.out 0).trans rfl
    have hcz9_1 : w7.cell? ⟨gb146, 1, none⟩ = some (.int .i64 a0_1) := (blk_cell BK146.out 1).trans rfl
    have hfz9_0 := blk_frozen BK146.out 0
    have hfz9_1 := blk_frozen BK146.out 1
    go_wp2
    repeat (go_quiet (fail); try go_wp2)
    go_meet
    case rel => exact ⟨_, (decide (t147 ≥ (l0_0.length : Int))), (by first | rfl | (simp; done) | (simp [*]; done)), H', ⟨by first | omega | exact Nat.le_refl _⟩, ⟨by (with_reducible repeat (first | refine blk_drewN ?_ _ | refine blk_drew ?_ | refine blk_alloc ?_ _)); exact BK146.out⟩, ⟨by repeat (first | (with_reducible first | exact HB.out | apply below_alloc | apply pw_below_drewN | apply below_drew1 | refine below_set ?_ GE146.out) | exact HB.out)⟩⟩
  case rest =>
   clear HC6
   try clear p2
   try clear c3
   try clear c3b0
   try clear c3b1
   try clear c5
   try clear c8
   try clear c8b0
   try clear hcz9_0
   try clear hcz9_1
   try clear hfz9_0
   try clear hfz9_1
   obtain ⟨kq, x20_5, rfl, HA, HJ5, BK146, HB⟩ := hcut
   cases kq with
   | zero => exact absurd HA.out (by simp [mortmainref03_Find.j0])
   | succ kj5 =>
    have H := HA.out
    clear HA
    simp only [mortmainref03_Find.j0] at H
    by_cases c10 : x20_5 = true
    ·subst c10
     have H1 : (some ((-1), 3)) = some (r1, r2) := by rw [if_pos rfl] at H; exact H
     clear H
     have H := H1
     clear H1
     simp only [Option.some.injEq, Prod.mk.injEq] at H
     obtain ⟨rfl, rfl⟩ := H
     go_wp2
     repeat (go_quiet (fail); try go_wp2)
     go_ret2
     exact ⟨by first | rfl | (simp [errW_none, errW_some] <;> rfl) | (simp [*, errW_none, errW_some] <;> rfl), by repeat (first | (with_reducible first | exact HB.out | apply below_alloc | apply pw_below_drewN | apply below_drew1 | refine below_set ?_ GE146.out) | exact HB.out)⟩
    ·replace c10 := Bool.eq_false_iff.mpr c10
     subst c10
     have H1 : (if 0 ≤ t147 then (if t147 < (l0_0.length : Int) then ((mortmainref01_Gen.f a1).bind fun t150 => (if ((rd_T120 l0_0 t147).f1) = t150 then (if ((rd_T120 l0_0 t147).f0) = 1 then (some (t147, 0)) else (if ((rd_T120 l0_0 t147).f0) = 2 then (some (t147, 0)) else (some ((-1), 3)))) else (some ((-1), 3)))) else (none)) else (none)) = some (r1, r2) := by rw [if_neg (show ¬ (false = true) by decide)] at H; exact H
     clear H
     have H := H1
     clear H1
     by_cases c11 : 0 ≤ t147
     ·rw [if_pos c11] at H
      have c11b0 : decide (0 ≤ t147) = true := decide_eq_true c11
      clear c11
      by_cases c12 : t147 < (l0_0.length : Int)
      ·rw [if_pos c12] at H
       have c12b0 : decide (t147 < (l0_0.length : Int)) = true := decide_eq_true c12
       clear c12
       replace H := Option.bind_eq_some_iff.mp H
       obtain ⟨t150, A130, H⟩ := H
       replace H : (if ((rd_T120 l0_0 t147).f1) = t150 then (if ((rd_T120 l0_0 t147).f0) = 1 then (some (t147, 0)) else (if ((rd_T120 l0_0 t147).f0) = 2 then (some (t147, 0)) else (some ((-1), 3)))) else (some ((-1), 3))) = some (r1, r2) := H
       have A13 := Aside0.mk A130
       clear A130
       by_cases c14 : ((rd_T120 l0_0 t147).f1) = t150
       ·rw [if_pos c14] at H
        have c14b0 : (((rd_T120 l0_0 t147).f1) == t150) = true := beq_iff_eq.mpr c14
        have c14b1 : (((rd_T120 l0_0 t147).f1) != t150) = false := bne_eq_false_iff_eq.mpr c14
        clear c14
        by_cases c15 : ((rd_T120 l0_0 t147).f0) = 1
        ·rw [if_pos c15] at H
         have c15b0 : (((rd_T120 l0_0 t147).f0) == 1) = true := beq_iff_eq.mpr c15
         have c15b1 : (((rd_T120 l0_0 t147).f0) != 1) = false := bne_eq_false_iff_eq.mpr c15
         clear c15
         simp only [Option.some.injEq, Prod.mk.injEq] at H
         obtain ⟨rfl, rfl⟩ := H
         have hcz16_0 : wc.cell? ⟨gb146, 0, none⟩ = some (.slice A0_0 l0_0.length c0_0) := (blk_cell BK146.out 0).trans rfl
         have hcz16_1 : wc.cell? ⟨gb146, 1, none⟩ = some (.int .i64 a0_1) := (blk_cell BK146.out 1).trans rfl
         have hfz16_0 := blk_frozen BK146.out 0
         have hfz16_1 := blk_frozen BK146.out 1
         have p148 : 0 ≤ (t147 : Int) := oT
         have q148 : t147 < (l0_0.length : Int) := oT
         obtain ⟨ad148, e148, hx148_0, hx148_1, hx148_2⟩ := at_T120 HR0_0.out t147 p148 q148
         cases e148
         replace hx148_0 := cT HB.out hx148_0
         replace hx148_1 := cT HB.out hx148_1
         replace hx148_2 := cT HB.out hx148_2
         replace p148 := eq_true p148
         replace q148 := eq_true q148
         go_wp2_with (first | ((with_reducible refine gate_dst (N := 7) rfl ?_); (try (refine gate_guard (by rfl) ?_; dsimp only)); refine box_event ?hg (N := 7) ?hd (cs := #[.int .i64 0, .int .i64 0, .int .i64 0]) (t := 120) ?hr ?_; (case hd => rfl); (case hg => rfl); (case hr => first | (go_simp; done) | (go_simp; rfl)); intro gb149 hg w17 hbox hb; have n0_ := Aside0.mk (blk_below (g := gb146) (o := .cells #[.slice (some ad148) l0_0.length c0_0, .int .i64 a0_1] 78 (0, 0)) (kT BK146.out) hb); have n1_ := Aside0.mk (below_step (bG GE146.out) hb); have n2_ := Aside0.mk (hbox); have n3_ := Aside0.mk (gT hg (bG GE146.out)); have n4_ := Aside0.mk (gT hg (bG GE146.out)); have n5_ := Aside0.mk ((by rw [hg]; exact Nat.ne_of_lt (blk_lt (g := gb146) (o := .cells #[.slice (some ad148) l0_0.length c0_0, .int .i64 a0_1] 78 (0, 0)) (kT BK146.out)) : gb146 ≠ gb149)); have n6_ := Aside0.mk ((by rw [hg]; exact Nat.ne_of_gt (blk_lt (g := gb146) (o := .cells #[.slice (some ad148) l0_0.length c0_0, .int .i64 a0_1] 78 (0, 0)) (kT BK146.out)) : gb149 ≠ gb146)); clear BK146; clear HB; have BK146 := n0_; have HB := n1_; have BK149 := n2_; have GW149 := n3_; have GE149 := n4_; have NB146_149 := n5_; have NB149_146 := n6_; clear n0_ n1_ n2_ n3_ n4_ n5_ n6_; clear hb hbox hg; have hnb18 := NB149_146.out; have hnc18 := NB146_149.out; have hcz19_0 : w17.cell? ⟨gb149, 0, none⟩ = some (.int .i64 0) := (blk_cell BK149.out 0).trans rfl; have hcz19_1 : w17.cell? ⟨gb149, 1, none⟩ = some (.int .i64 0) := (blk_cell BK149.out 1).trans rfl; have hcz19_2 : w17.cell? ⟨gb149, 2, none⟩ = some (.int .i64 0) := (blk_cell BK149.out 2).trans rfl; have hfz19_0 := blk_frozen BK149.out 0; have hfz19_1 := blk_frozen BK149.out 1; have hfz19_2 := blk_frozen BK149.out 2) | (go_at_call 93; (with_reducible refine (mortmainref01_Gen.calls a1 t150 _ A13.out).mono ?_); rintro e w' ⟨rfl, ⟨nd, rfl⟩⟩; (try first | exact ⟨rfl, _, World.drewN_drewN _ _ _⟩ | exact ⟨rfl, _, Eq.trans (World.drewN_drewN _ _ _) (congrArg (World.drewN _) (Nat.add_assoc _ _ _))⟩)))
         repeat (go_quiet (first | ((with_reducible refine gate_dst (N := 7) rfl ?_); (try (refine gate_guard (by rfl) ?_; dsimp only)); refine box_event ?hg (N := 7) ?hd (cs := #[.int .i64 0, .int .i64 0, .int .i64 0]) (t := 120) ?hr ?_; (case hd => rfl); (case hg => rfl); (case hr => first | (go_simp; done) | (go_simp; rfl)); intro gb149 hg w17 hbox hb; have n0_ := Aside0.mk (blk_below (g := gb146) (o := .cells #[.slice (some ad148) l0_0.length c0_0, .int .i64 a0_1] 78 (0, 0)) (kT BK146.out) hb); have n1_ := Aside0.mk (below_step (bG GE146.out) hb); have n2_ := Aside0.mk (hbox); have n3_ := Aside0.mk (gT hg (bG GE146.out)); have n4_ := Aside0.mk (gT hg (bG GE146.out)); have n5_ := Aside0.mk ((by rw [hg]; exact Nat.ne_of_lt (blk_lt (g := gb146) (o := .cells #[.slice (some ad148) l0_0.length c0_0, .int .i64 a0_1] 78 (0, 0)) (kT BK146.out)) : gb146 ≠ gb149)); have n6_ := Aside0.mk ((by rw [hg]; exact Nat.ne_of_gt (blk_lt (g := gb146) (o := .cells #[.slice (some ad148) l0_0.length c0_0, .int .i64 a0_1] 78 (0, 0)) (kT BK146.out)) : gb149 ≠ gb146)); clear BK146; clear HB; have BK146 := n0_; have HB := n1_; have BK149 := n2_; have GW149 := n3_; have GE149 := n4_; have NB146_149 := n5_; have NB149_146 := n6_; clear n0_ n1_ n2_ n3_ n4_ n5_ n6_; clear hb hbox hg; have hnb18 := NB149_146.out; have hnc18 := NB146_149.out; have hcz19_0 : w17.cell? ⟨gb149, 0, none⟩ = some (.int .i64 0) := (blk_cell BK149.out 0).trans rfl; have hcz19_1 : w17.cell? ⟨gb149, 1, none⟩ = some (.int .i64 0) := (blk_cell BK149.out 1).trans rfl; have hcz19_2 : w17.cell? ⟨gb149, 2, none⟩ = some (.int .i64 0) := (blk_cell BK149.out 2).trans rfl; have hfz19_0 := blk_frozen BK149.out 0; have hfz19_1 := blk_frozen BK149.out 1; have hfz19_2 := blk_frozen BK149.out 2) | (go_at_call 93; (with_reducible refine (mortmainref01_Gen.calls a1 t150 _ A13.out).mono ?_); rintro e w' ⟨rfl, ⟨nd, rfl⟩⟩; (try first | exact ⟨rfl, _, World.drewN_drewN _ _ _⟩ | exact ⟨rfl, _, Eq.trans (World.drewN_drewN _ _ _) (congrArg (World.drewN _) (Nat.add_assoc _ _ _))⟩))); try go_wp2_with (first | ((with_reducible refine gate_dst (N := 7) rfl ?_); (try (refine gate_guard (by rfl) ?_; dsimp only)); refine box_event ?hg (N := 7) ?hd (cs := #[.int .i64 0, .int .i64 0, .int .i64 0]) (t := 120) ?hr ?_; (case hd => rfl); (case hg => rfl); (case hr => first | (go_simp; done) | (go_simp; rfl)); intro gb149 hg w17 hbox hb; have n0_ := Aside0.mk (blk_below (g := gb146) (o := .cells #[.slice (some ad148) l0_0.length c0_0, .int .i64 a0_1] 78 (0, 0)) (kT BK146.out) hb); have n1_ := Aside0.mk (below_step (bG GE146.out) hb); have n2_ := Aside0.mk (hbox); have n3_ := Aside0.mk (gT hg (bG GE146.out)); have n4_ := Aside0.mk (gT hg (bG GE146.out)); have n5_ := Aside0.mk ((by rw [hg]; exact Nat.ne_of_lt (blk_lt (g := gb146) (o := .cells #[.slice (some ad148) l0_0.length c0_0, .int .i64 a0_1] 78 (0, 0)) (kT BK146.out)) : gb146 ≠ gb149)); have n6_ := Aside0.mk ((by rw [hg]; exact Nat.ne_of_gt (blk_lt (g := gb146) (o := .cells #[.slice (some ad148) l0_0.length c0_0, .int .i64 a0_1] 78 (0, 0)) (kT BK146.out)) : gb149 ≠ gb146)); clear BK146; clear HB; have BK146 := n0_; have HB := n1_; have BK149 := n2_; have GW149 := n3_; have GE149 := n4_; have NB146_149 := n5_; have NB149_146 := n6_; clear n0_ n1_ n2_ n3_ n4_ n5_ n6_; clear hb hbox hg; have hnb18 := NB149_146.out; have hnc18 := NB146_149.out; have hcz19_0 : w17.cell? ⟨gb149, 0, none⟩ = some (.int .i64 0) := (blk_cell BK149.out 0).trans rfl; have hcz19_1 : w17.cell? ⟨gb149, 1, none⟩ = some (.int .i64 0) := (blk_cell BK149.out 1).trans rfl; have hcz19_2 : w17.cell? ⟨gb149, 2, none⟩ = some (.int .i64 0) := (blk_cell BK149.out 2).trans rfl; have hfz19_0 := blk_frozen BK149.out 0; have hfz19_1 := blk_frozen BK149.out 1; have hfz19_2 := blk_frozen BK149.out 2) | (go_at_call 93; (with_reducible refine (mortmainref01_Gen.calls a1 t150 _ A13.out).mono ?_); rintro e w' ⟨rfl, ⟨nd, rfl⟩⟩; (try first | exact ⟨rfl, _, World.drewN_drewN _ _ _⟩ | exact ⟨rfl, _, Eq.trans (World.drewN_drewN _ _ _) (congrArg (World.drewN _) (Nat.add_assoc _ _ _))⟩))))
         go_ret2
         exact ⟨by first | rfl | (simp [errW_none, errW_some] <;> rfl) | (simp [*, errW_none, errW_some] <;> rfl), by repeat (first | (with_reducible first | exact HB.out | apply below_alloc | apply pw_below_drewN | apply below_drew1 | refine below_set ?_ GE146.out | refine below_set ?_ GE149.out) | exact HB.out)⟩
        ·rw [if_neg c15] at H
         have c15b0 : (((rd_T120 l0_0 t147).f0) == 1) = false := beq_eq_false_iff_ne.mpr c15
         have c15b1 : (((rd_T120 l0_0 t147).f0) != 1) = true := bne_iff_ne.mpr c15
         by_cases c20 : ((rd_T120 l0_0 t147).f0) = 2
         ·rw [if_pos c20] at H
          have c20b0 : (((rd_T120 l0_0 t147).f0) == 2) = true := beq_iff_eq.mpr c20
          have c20b1 : (((rd_T120 l0_0 t147).f0) != 2) = false := bne_eq_false_iff_eq.mpr c20
          clear c20
          simp only [Option.some.injEq, Prod.mk.injEq] at H
          obtain ⟨rfl, rfl⟩ := H
          have hcz21_0 : wc.cell? ⟨gb146, 0, none⟩ = some (.slice A0_0 l0_0.length c0_0) := (blk_cell BK146.out 0).trans rfl
          have hcz21_1 : wc.cell? ⟨gb146, 1, none⟩ = some (.int .i64 a0_1) := (blk_cell BK146.out 1).trans rfl
          have hfz21_0 := blk_frozen BK146.out 0
          have hfz21_1 := blk_frozen BK146.out 1
          have p148 : 0 ≤ (t147 : Int) := oT
          have q148 : t147 < (l0_0.length : Int) := oT
          obtain ⟨ad148, e148, hx148_0, hx148_1, hx148_2⟩ := at_T120 HR0_0.out t147 p148 q148
          cases e148
          replace hx148_0 := cT HB.out hx148_0
          replace hx148_1 := cT HB.out hx148_1
          replace hx148_2 := cT HB.out hx148_2
          replace p148 := eq_true p148
          replace q148 := eq_true q148
          go_wp2_with (first | ((with_reducible refine gate_dst (N := 7) rfl ?_); (try (refine gate_guard (by rfl) ?_; dsimp only)); refine box_event ?hg (N := 7) ?hd (cs := #[.int .i64 0, .int .i64 0, .int .i64 0]) (t := 120) ?hr ?_; (case hd => rfl); (case hg => rfl); (case hr => first | (go_simp; done) | (go_simp; rfl)); intro gb149 hg w22 hbox hb; have n0_ := Aside0.mk (blk_below (g := gb146) (o := .cells #[.slice (some ad148) l0_0.length c0_0, .int .i64 a0_1] 78 (0, 0)) (kT BK146.out) hb); have n1_ := Aside0.mk (below_step (bG GE146.out) hb); have n2_ := Aside0.mk (hbox); have n3_ := Aside0.mk (gT hg (bG GE146.out)); have n4_ := Aside0.mk (gT hg (bG GE146.out)); have n5_ := Aside0.mk ((by rw [hg]; exact Nat.ne_of_lt (blk_lt (g := gb146) (o := .cells #[.slice (some ad148) l0_0.length c0_0, .int .i64 a0_1] 78 (0, 0)) (kT BK146.out)) : gb146 ≠ gb149)); have n6_ := Aside0.mk ((by rw [hg]; exact Nat.ne_of_gt (blk_lt (g := gb146) (o := .cells #[.slice (some ad148) l0_0.length c0_0, .int .i64 a0_1] 78 (0, 0)) (kT BK146.out)) : gb149 ≠ gb146)); clear BK146; clear HB; have BK146 := n0_; have HB := n1_; have BK149 := n2_; have GW149 := n3_; have GE149 := n4_; have NB146_149 := n5_; have NB149_146 := n6_; clear n0_ n1_ n2_ n3_ n4_ n5_ n6_; clear hb hbox hg; have hnb23 := NB149_146.out; have hnc23 := NB146_149.out; have hcz24_0 : w22.cell? ⟨gb149, 0, none⟩ = some (.int .i64 0) := (blk_cell BK149.out 0).trans rfl; have hcz24_1 : w22.cell? ⟨gb149, 1, none⟩ = some (.int .i64 0) := (blk_cell BK149.out 1).trans rfl; have hcz24_2 : w22.cell? ⟨gb149, 2, none⟩ = some (.int .i64 0) := (blk_cell BK149.out 2).trans rfl; have hfz24_0 := blk_frozen BK149.out 0; have hfz24_1 := blk_frozen BK149.out 1; have hfz24_2 := blk_frozen BK149.out 2) | (go_at_call 93; (with_reducible refine (mortmainref01_Gen.calls a1 t150 _ A13.out).mono ?_); rintro e w' ⟨rfl, ⟨nd, rfl⟩⟩; (try first | exact ⟨rfl, _, World.drewN_drewN _ _ _⟩ | exact ⟨rfl, _, Eq.trans (World.drewN_drewN _ _ _) (congrArg (World.drewN _) (Nat.add_assoc _ _ _))⟩)))
          repeat (go_quiet (first | ((with_reducible refine gate_dst (N := 7) rfl ?_); (try (refine gate_guard (by rfl) ?_; dsimp only)); refine box_event ?hg (N := 7) ?hd (cs := #[.int .i64 0, .int .i64 0, .int .i64 0]) (t := 120) ?hr ?_; (case hd => rfl); (case hg => rfl); (case hr => first | (go_simp; done) | (go_simp; rfl)); intro gb149 hg w22 hbox hb; have n0_ := Aside0.mk (blk_below (g := gb146) (o := .cells #[.slice (some ad148) l0_0.length c0_0, .int .i64 a0_1] 78 (0, 0)) (kT BK146.out) hb); have n1_ := Aside0.mk (below_step (bG GE146.out) hb); have n2_ := Aside0.mk (hbox); have n3_ := Aside0.mk (gT hg (bG GE146.out)); have n4_ := Aside0.mk (gT hg (bG GE146.out)); have n5_ := Aside0.mk ((by rw [hg]; exact Nat.ne_of_lt (blk_lt (g := gb146) (o := .cells #[.slice (some ad148) l0_0.length c0_0, .int .i64 a0_1] 78 (0, 0)) (kT BK146.out)) : gb146 ≠ gb149)); have n6_ := Aside0.mk ((by rw [hg]; exact Nat.ne_of_gt (blk_lt (g := gb146) (o := .cells #[.slice (some ad148) l0_0.length c0_0, .int .i64 a0_1] 78 (0, 0)) (kT BK146.out)) : gb149 ≠ gb146)); clear BK146; clear HB; have BK146 := n0_; have HB := n1_; have BK149 := n2_; have GW149 := n3_; have GE149 := n4_; have NB146_149 := n5_; have NB149_146 := n6_; clear n0_ n1_ n2_ n3_ n4_ n5_ n6_; clear hb hbox hg; have hnb23 := NB149_146.out; have hnc23 := NB146_149.out; have hcz24_0 : w22.cell? ⟨gb149, 0, none⟩ = some (.int .i64 0) := (blk_cell BK149.out 0).trans rfl; have hcz24_1 : w22.cell? ⟨gb149, 1, none⟩ = some (.int .i64 0) := (blk_cell BK149.out 1).trans rfl; have hcz24_2 : w22.cell? ⟨gb149, 2, none⟩ = some (.int .i64 0) := (blk_cell BK149.out 2).trans rfl; have hfz24_0 := blk_frozen BK149.out 0; have hfz24_1 := blk_frozen BK149.out 1; have hfz24_2 := blk_frozen BK149.out 2) | (go_at_call 93; (with_reducible refine (mortmainref01_Gen.calls a1 t150 _ A13.out).mono ?_); rintro e w' ⟨rfl, ⟨nd, rfl⟩⟩; (try first | exact ⟨rfl, _, World.drewN_drewN _ _ _⟩ | exact ⟨rfl, _, Eq.trans (World.drewN_drewN _ _ _) (congrArg (World.drewN _) (Nat.add_assoc _ _ _))⟩))); try go_wp2_with (first | ((with_reducible refine gate_dst (N := 7) rfl ?_); (try (refine gate_guard (by rfl) ?_; dsimp only)); refine box_event ?hg (N := 7) ?hd (cs := #[.int .i64 0, .int .i64 0, .int .i64 0]) (t := 120) ?hr ?_; (case hd => rfl); (case hg => rfl); (case hr => first | (go_simp; done) | (go_simp; rfl)); intro gb149 hg w22 hbox hb; have n0_ := Aside0.mk (blk_below (g := gb146) (o := .cells #[.slice (some ad148) l0_0.length c0_0, .int .i64 a0_1] 78 (0, 0)) (kT BK146.out) hb); have n1_ := Aside0.mk (below_step (bG GE146.out) hb); have n2_ := Aside0.mk (hbox); have n3_ := Aside0.mk (gT hg (bG GE146.out)); have n4_ := Aside0.mk (gT hg (bG GE146.out)); have n5_ := Aside0.mk ((by rw [hg]; exact Nat.ne_of_lt (blk_lt (g := gb146) (o := .cells #[.slice (some ad148) l0_0.length c0_0, .int .i64 a0_1] 78 (0, 0)) (kT BK146.out)) : gb146 ≠ gb149)); have n6_ := Aside0.mk ((by rw [hg]; exact Nat.ne_of_gt (blk_lt (g := gb146) (o := .cells #[.slice (some ad148) l0_0.length c0_0, .int .i64 a0_1] 78 (0, 0)) (kT BK146.out)) : gb149 ≠ gb146)); clear BK146; clear HB; have BK146 := n0_; have HB := n1_; have BK149 := n2_; have GW149 := n3_; have GE149 := n4_; have NB146_149 := n5_; have NB149_146 := n6_; clear n0_ n1_ n2_ n3_ n4_ n5_ n6_; clear hb hbox hg; have hnb23 := NB149_146.out; have hnc23 := NB146_149.out; have hcz24_0 : w22.cell? ⟨gb149, 0, none⟩ = some (.int .i64 0) := (blk_cell BK149.out 0).trans rfl; have hcz24_1 : w22.cell? ⟨gb149, 1, none⟩ = some (.int .i64 0) := (blk_cell BK149.out 1).trans rfl; have hcz24_2 : w22.cell? ⟨gb149, 2, none⟩ = some (.int .i64 0) := (blk_cell BK149.out 2).trans rfl; have hfz24_0 := blk_frozen BK149.out 0; have hfz24_1 := blk_frozen BK149.out 1; have hfz24_2 := blk_frozen BK149.out 2) | (go_at_call 93; (with_reducible refine (mortmainref01_Gen.calls a1 t150 _ A13.out).mono ?_); rintro e w' ⟨rfl, ⟨nd, rfl⟩⟩; (try first | exact ⟨rfl, _, World.drewN_drewN _ _ _⟩ | exact ⟨rfl, _, Eq.trans (World.drewN_drewN _ _ _) (congrArg (World.drewN _) (Nat.add_assoc _ _ _))⟩))))
          go_ret2
          exact ⟨by first | rfl | (simp [errW_none, errW_some] <;> rfl) | (simp [*, errW_none, errW_some] <;> rfl), by repeat (first | (with_reducible first | exact HB.out | apply below_alloc | apply pw_below_drewN | apply below_drew1 | refine below_set ?_ GE146.out | refine below_set ?_ GE149.out) | exact HB.out)⟩
         ·rw [if_neg c20] at H
          have c20b0 : (((rd_T120 l0_0 t147).f0) == 2) = false := beq_eq_false_iff_ne.mpr c20
          have c20b1 : (((rd_T120 l0_0 t147).f0) != 2) = true := bne_iff_ne.mpr c20
          simp only [Option.some.injEq, Prod.mk.injEq] at H
          obtain ⟨rfl, rfl⟩ := H
          have hcz25_0 : wc.cell? ⟨gb146, 0, none⟩ = some (.slice A0_0 l0_0.length c0_0) := (blk_cell BK146.out 0).trans rfl
          have hcz25_1 : wc.cell? ⟨gb146, 1, none⟩ = some (.int .i64 a0_1) := (blk_cell BK146.out 1).trans rfl
          have hfz25_0 := blk_frozen BK146.out 0
          have hfz25_1 := blk_frozen BK146.out 1
          have p148 : 0 ≤ (t147 : Int) := oT
          have q148 : t147 < (l0_0.length : Int) := oT
          obtain ⟨ad148, e148, hx148_0, hx148_1, hx148_2⟩ := at_T120 HR0_0.out t147 p148 q148
          cases e148
          replace hx148_0 := cT HB.out hx148_0
          replace hx148_1 := cT HB.out hx148_1
          replace hx148_2 := cT HB.out hx148_2
          replace p148 := eq_true p148
          replace q148 := eq_true q148
          go_wp2_with (first | ((with_reducible refine gate_dst (N := 7) rfl ?_); (try (refine gate_guard (by rfl) ?_; dsimp only)); refine box_event ?hg (N := 7) ?hd (cs := #[.int .i64 0, .int .i64 0, .int .i64 0]) (t := 120) ?hr ?_; (case hd => rfl); (case hg => rfl); (case hr => first | (go_simp; done) | (go_simp; rfl)); intro gb149 hg w26 hbox hb; have n0_ := Aside0.mk (blk_below (g := gb146) (o := .cells #[.slice (some ad148) l0_0.length c0_0, .int .i64 a0_1] 78 (0, 0)) (kT BK146.out) hb); have n1_ := Aside0.mk (below_step (bG GE146.out) hb); have n2_ := Aside0.mk (hbox); have n3_ := Aside0.mk (gT hg (bG GE146.out)); have n4_ := Aside0.mk (gT hg (bG GE146.out)); have n5_ := Aside0.mk ((by rw [hg]; exact Nat.ne_of_lt (blk_lt (g := gb146) (o := .cells #[.slice (some ad148) l0_0.length c0_0, .int .i64 a0_1] 78 (0, 0)) (kT BK146.out)) : gb146 ≠ gb149)); have n6_ := Aside0.mk ((by rw [hg]; exact Nat.ne_of_gt (blk_lt (g := gb146) (o := .cells #[.slice (some ad148) l0_0.length c0_0, .int .i64 a0_1] 78 (0, 0)) (kT BK146.out)) : gb149 ≠ gb146)); clear BK146; clear HB; have BK146 := n0_; have HB := n1_; have BK149 := n2_; have GW149 := n3_; have GE149 := n4_; have NB146_149 := n5_; have NB149_146 := n6_; clear n0_ n1_ n2_ n3_ n4_ n5_ n6_; clear hb hbox hg; have hnb27 := NB149_146.out; have hnc27 := NB146_149.out; have hcz28_0 : w26.cell? ⟨gb149, 0, none⟩ = some (.int .i64 0) := (blk_cell BK149.out 0).trans rfl; have hcz28_1 : w26.cell? ⟨gb149, 1, none⟩ = some (.int .i64 0) := (blk_cell BK149.out 1).trans rfl; have hcz28_2 : w26.cell? ⟨gb149, 2, none⟩ = some (.int .i64 0) := (blk_cell BK149.out 2).trans rfl; have hfz28_0 := blk_frozen BK149.out 0; have hfz28_1 := blk_frozen BK149.out 1; have hfz28_2 := blk_frozen BK149.out 2) | (go_at_call 93; (with_reducible refine (mortmainref01_Gen.calls a1 t150 _ A13.out).mono ?_); rintro e w' ⟨rfl, ⟨nd, rfl⟩⟩; (try first | exact ⟨rfl, _, World.drewN_drewN _ _ _⟩ | exact ⟨rfl, _, Eq.trans (World.drewN_drewN _ _ _) (congrArg (World.drewN _) (Nat.add_assoc _ _ _))⟩)))
          repeat (go_quiet (first | ((with_reducible refine gate_dst (N := 7) rfl ?_); (try (refine gate_guard (by rfl) ?_; dsimp only)); refine box_event ?hg (N := 7) ?hd (cs := #[.int .i64 0, .int .i64 0, .int .i64 0]) (t := 120) ?hr ?_; (case hd => rfl); (case hg => rfl); (case hr => first | (go_simp; done) | (go_simp; rfl)); intro gb149 hg w26 hbox hb; have n0_ := Aside0.mk (blk_below (g := gb146) (o := .cells #[.slice (some ad148) l0_0.length c0_0, .int .i64 a0_1] 78 (0, 0)) (kT BK146.out) hb); have n1_ := Aside0.mk (below_step (bG GE146.out) hb); have n2_ := Aside0.mk (hbox); have n3_ := Aside0.mk (gT hg (bG GE146.out)); have n4_ := Aside0.mk (gT hg (bG GE146.out)); have n5_ := Aside0.mk ((by rw [hg]; exact Nat.ne_of_lt (blk_lt (g := gb146) (o := .cells #[.slice (some ad148) l0_0.length c0_0, .int .i64 a0_1] 78 (0, 0)) (kT BK146.out)) : gb146 ≠ gb149)); have n6_ := Aside0.mk ((by rw [hg]; exact Nat.ne_of_gt (blk_lt (g := gb146) (o := .cells #[.slice (some ad148) l0_0.length c0_0, .int .i64 a0_1] 78 (0, 0)) (kT BK146.out)) : gb149 ≠ gb146)); clear BK146; clear HB; have BK146 := n0_; have HB := n1_; have BK149 := n2_; have GW149 := n3_; have GE149 := n4_; have NB146_149 := n5_; have NB149_146 := n6_; clear n0_ n1_ n2_ n3_ n4_ n5_ n6_; clear hb hbox hg; have hnb27 := NB149_146.out; have hnc27 := NB146_149.out; have hcz28_0 : w26.cell? ⟨gb149, 0, none⟩ = some (.int .i64 0) := (blk_cell BK149.out 0).trans rfl; have hcz28_1 : w26.cell? ⟨gb149, 1, none⟩ = some (.int .i64 0) := (blk_cell BK149.out 1).trans rfl; have hcz28_2 : w26.cell? ⟨gb149, 2, none⟩ = some (.int .i64 0) := (blk_cell BK149.out 2).trans rfl; have hfz28_0 := blk_frozen BK149.out 0; have hfz28_1 := blk_frozen BK149.out 1; have hfz28_2 := blk_frozen BK149.out 2) | (go_at_call 93; (with_reducible refine (mortmainref01_Gen.calls a1 t150 _ A13.out).mono ?_); rintro e w' ⟨rfl, ⟨nd, rfl⟩⟩; (try first | exact ⟨rfl, _, World.drewN_drewN _ _ _⟩ | exact ⟨rfl, _, Eq.trans (World.drewN_drewN _ _ _) (congrArg (World.drewN _) (Nat.add_assoc _ _ _))⟩))); try go_wp2_with (first | ((with_reducible refine gate_dst (N := 7) rfl ?_); (try (refine gate_guard (by rfl) ?_; dsimp only)); refine box_event ?hg (N := 7) ?hd (cs := #[.int .i64 0, .int .i64 0, .int .i64 0]) (t := 120) ?hr ?_; (case hd => rfl); (case hg => rfl); (case hr => first | (go_simp; done) | (go_simp; rfl)); intro gb149 hg w26 hbox hb; have n0_ := Aside0.mk (blk_below (g := gb146) (o := .cells #[.slice (some ad148) l0_0.length c0_0, .int .i64 a0_1] 78 (0, 0)) (kT BK146.out) hb); have n1_ := Aside0.mk (below_step (bG GE146.out) hb); have n2_ := Aside0.mk (hbox); have n3_ := Aside0.mk (gT hg (bG GE146.out)); have n4_ := Aside0.mk (gT hg (bG GE146.out)); have n5_ := Aside0.mk ((by rw [hg]; exact Nat.ne_of_lt (blk_lt (g := gb146) (o := .cells #[.slice (some ad148) l0_0.length c0_0, .int .i64 a0_1] 78 (0, 0)) (kT BK146.out)) : gb146 ≠ gb149)); have n6_ := Aside0.mk ((by rw [hg]; exact Nat.ne_of_gt (blk_lt (g := gb146) (o := .cells #[.slice (some ad148) l0_0.length c0_0, .int .i64 a0_1] 78 (0, 0)) (kT BK146.out)) : gb149 ≠ gb146)); clear BK146; clear HB; have BK146 := n0_; have HB := n1_; have BK149 := n2_; have GW149 := n3_; have GE149 := n4_; have NB146_149 := n5_; have NB149_146 := n6_; clear n0_ n1_ n2_ n3_ n4_ n5_ n6_; clear hb hbox hg; have hnb27 := NB149_146.out; have hnc27 := NB146_149.out; have hcz28_0 : w26.cell? ⟨gb149, 0, none⟩ = some (.int .i64 0) := (blk_cell BK149.out 0).trans rfl; have hcz28_1 : w26.cell? ⟨gb149, 1, none⟩ = some (.int .i64 0) := (blk_cell BK149.out 1).trans rfl; have hcz28_2 : w26.cell? ⟨gb149, 2, none⟩ = some (.int .i64 0) := (blk_cell BK149.out 2).trans rfl; have hfz28_0 := blk_frozen BK149.out 0; have hfz28_1 := blk_frozen BK149.out 1; have hfz28_2 := blk_frozen BK149.out 2) | (go_at_call 93; (with_reducible refine (mortmainref01_Gen.calls a1 t150 _ A13.out).mono ?_); rintro e w' ⟨rfl, ⟨nd, rfl⟩⟩; (try first | exact ⟨rfl, _, World.drewN_drewN _ _ _⟩ | exact ⟨rfl, _, Eq.trans (World.drewN_drewN _ _ _) (congrArg (World.drewN _) (Nat.add_assoc _ _ _))⟩))))
          go_ret2
          exact ⟨by first | rfl | (simp [errW_none, errW_some] <;> rfl) | (simp [*, errW_none, errW_some] <;> rfl), by repeat (first | (with_reducible first | exact HB.out | apply below_alloc | apply pw_below_drewN | apply below_drew1 | refine below_set ?_ GE146.out | refine below_set ?_ GE149.out) | exact HB.out)⟩
       ·rw [if_neg c14] at H
        have c14b0 : (((rd_T120 l0_0 t147).f1) == t150) = false := beq_eq_false_iff_ne.mpr c14
        have c14b1 : (((rd_T120 l0_0 t147).f1) != t150) = true := bne_iff_ne.mpr c14
        simp only [Option.some.injEq, Prod.mk.injEq] at H
        obtain ⟨rfl, rfl⟩ := H
        have hcz29_0 : wc.cell? ⟨gb146, 0, none⟩ = some (.slice A0_0 l0_0.length c0_0) := (blk_cell BK146.out 0).trans rfl
        have hcz29_1 : wc.cell? ⟨gb146, 1, none⟩ = some (.int .i64 a0_1) := (blk_cell BK146.out 1).trans rfl
        have hfz29_0 := blk_frozen BK146.out 0
        have hfz29_1 := blk_frozen BK146.out 1
        have p148 : 0 ≤ (t147 : Int) := oT
        have q148 : t147 < (l0_0.length : Int) := oT
        obtain ⟨ad148, e148, hx148_0, hx148_1, hx148_2⟩ := at_T120 HR0_0.out t147 p148 q148
        cases e148
        replace hx148_0 := cT HB.out hx148_0
        replace hx148_1 := cT HB.out hx148_1
        replace hx148_2 := cT HB.out hx148_2
        replace p148 := eq_true p148
        replace q148 := eq_true q148
        go_wp2_with (first | ((with_reducible refine gate_dst (N := 7) rfl ?_); (try (refine gate_guard (by rfl) ?_; dsimp only)); refine box_event ?hg (N := 7) ?hd (cs := #[.int .i64 0, .int .i64 0, .int .i64 0]) (t := 120) ?hr ?_; (case hd => rfl); (case hg => rfl); (case hr => first | (go_simp; done) | (go_simp; rfl)); intro gb149 hg w30 hbox hb; have n0_ := Aside0.mk (blk_below (g := gb146) (o := .cells #[.slice (some ad148) l0_0.length c0_0, .int .i64 a0_1] 78 (0, 0)) (kT BK146.out) hb); have n1_ := Aside0.mk (below_step (bG GE146.out) hb); have n2_ := Aside0.mk (hbox); have n3_ := Aside0.mk (gT hg (bG GE146.out)); have n4_ := Aside0.mk (gT hg (bG GE146.out)); have n5_ := Aside0.mk ((by rw [hg]; exact Nat.ne_of_lt (blk_lt (g := gb146) (o := .cells #[.slice (some ad148) l0_0.length c0_0, .int .i64 a0_1] 78 (0, 0)) (kT BK146.out)) : gb146 ≠ gb149)); have n6_ := Aside0.mk ((by rw [hg]; exact Nat.ne_of_gt (blk_lt (g := gb146) (o := .cells #[.slice (some ad148) l0_0.length c0_0, .int .i64 a0_1] 78 (0, 0)) (kT BK146.out)) : gb149 ≠ gb146)); clear BK146; clear HB; have BK146 := n0_; have HB := n1_; have BK149 := n2_; have GW149 := n3_; have GE149 := n4_; have NB146_149 := n5_; have NB149_146 := n6_; clear n0_ n1_ n2_ n3_ n4_ n5_ n6_; clear hb hbox hg; have hnb31 := NB149_146.out; have hnc31 := NB146_149.out; have hcz32_0 : w30.cell? ⟨gb149, 0, none⟩ = some (.int .i64 0) := (blk_cell BK149.out 0).trans rfl; have hcz32_1 : w30.cell? ⟨gb149, 1, none⟩ = some (.int .i64 0) := (blk_cell BK149.out 1).trans rfl; have hcz32_2 : w30.cell? ⟨gb149, 2, none⟩ = some (.int .i64 0) := (blk_cell BK149.out 2).trans rfl; have hfz32_0 := blk_frozen BK149.out 0; have hfz32_1 := blk_frozen BK149.out 1; have hfz32_2 := blk_frozen BK149.out 2) | (go_at_call 93; (with_reducible refine (mortmainref01_Gen.calls a1 t150 _ A13.out).mono ?_); rintro e w' ⟨rfl, ⟨nd, rfl⟩⟩; (try first | exact ⟨rfl, _, World.drewN_drewN _ _ _⟩ | exact ⟨rfl, _, Eq.trans (World.drewN_drewN _ _ _) (congrArg (World.drewN _) (Nat.add_assoc _ _ _))⟩)))
        repeat (go_quiet (first | ((with_reducible refine gate_dst (N := 7) rfl ?_); (try (refine gate_guard (by rfl) ?_; dsimp only)); refine box_event ?hg (N := 7) ?hd (cs := #[.int .i64 0, .int .i64 0, .int .i64 0]) (t := 120) ?hr ?_; (case hd => rfl); (case hg => rfl); (case hr => first | (go_simp; done) | (go_simp; rfl)); intro gb149 hg w30 hbox hb; have n0_ := Aside0.mk (blk_below (g := gb146) (o := .cells #[.slice (some ad148) l0_0.length c0_0, .int .i64 a0_1] 78 (0, 0)) (kT BK146.out) hb); have n1_ := Aside0.mk (below_step (bG GE146.out) hb); have n2_ := Aside0.mk (hbox); have n3_ := Aside0.mk (gT hg (bG GE146.out)); have n4_ := Aside0.mk (gT hg (bG GE146.out)); have n5_ := Aside0.mk ((by rw [hg]; exact Nat.ne_of_lt (blk_lt (g := gb146) (o := .cells #[.slice (some ad148) l0_0.length c0_0, .int .i64 a0_1] 78 (0, 0)) (kT BK146.out)) : gb146 ≠ gb149)); have n6_ := Aside0.mk ((by rw [hg]; exact Nat.ne_of_gt (blk_lt (g := gb146) (o := .cells #[.slice (some ad148) l0_0.length c0_0, .int .i64 a0_1] 78 (0, 0)) (kT BK146.out)) : gb149 ≠ gb146)); clear BK146; clear HB; have BK146 := n0_; have HB := n1_; have BK149 := n2_; have GW149 := n3_; have GE149 := n4_; have NB146_149 := n5_; have NB149_146 := n6_; clear n0_ n1_ n2_ n3_ n4_ n5_ n6_; clear hb hbox hg; have hnb31 := NB149_146.out; have hnc31 := NB146_149.out; have hcz32_0 : w30.cell? ⟨gb149, 0, none⟩ = some (.int .i64 0) := (blk_cell BK149.out 0).trans rfl; have hcz32_1 : w30.cell? ⟨gb149, 1, none⟩ = some (.int .i64 0) := (blk_cell BK149.out 1).trans rfl; have hcz32_2 : w30.cell? ⟨gb149, 2, none⟩ = some (.int .i64 0) := (blk_cell BK149.out 2).trans rfl; have hfz32_0 := blk_frozen BK149.out 0; have hfz32_1 := blk_frozen BK149.out 1; have hfz32_2 := blk_frozen BK149.out 2) | (go_at_call 93; (with_reducible refine (mortmainref01_Gen.calls a1 t150 _ A13.out).mono ?_); rintro e w' ⟨rfl, ⟨nd, rfl⟩⟩; (try first | exact ⟨rfl, _, World.drewN_drewN _ _ _⟩ | exact ⟨rfl, _, Eq.trans (World.drewN_drewN _ _ _) (congrArg (World.drewN _) (Nat.add_assoc _ _ _))⟩))); try go_wp2_with (first | ((with_reducible refine gate_dst (N := 7) rfl ?_); (try (refine gate_guard (by rfl) ?_; dsimp only)); refine box_event ?hg (N := 7) ?hd (cs := #[.int .i64 0, .int .i64 0, .int .i64 0]) (t := 120) ?hr ?_; (case hd => rfl); (case hg => rfl); (case hr => first | (go_simp; done) | (go_simp; rfl)); intro gb149 hg w30 hbox hb; have n0_ := Aside0.mk (blk_below (g := gb146) (o := .cells #[.slice (some ad148) l0_0.length c0_0, .int .i64 a0_1] 78 (0, 0)) (kT BK146.out) hb); have n1_ := Aside0.mk (below_step (bG GE146.out) hb); have n2_ := Aside0.mk (hbox); have n3_ := Aside0.mk (gT hg (bG GE146.out)); have n4_ := Aside0.mk (gT hg (bG GE146.out)); have n5_ := Aside0.mk ((by rw [hg]; exact Nat.ne_of_lt (blk_lt (g := gb146) (o := .cells #[.slice (some ad148) l0_0.length c0_0, .int .i64 a0_1] 78 (0, 0)) (kT BK146.out)) : gb146 ≠ gb149)); have n6_ := Aside0.mk ((by rw [hg]; exact Nat.ne_of_gt (blk_lt (g := gb146) (o := .cells #[.slice (some ad148) l0_0.length c0_0, .int .i64 a0_1] 78 (0, 0)) (kT BK146.out)) : gb149 ≠ gb146)); clear BK146; clear HB; have BK146 := n0_; have HB := n1_; have BK149 := n2_; have GW149 := n3_; have GE149 := n4_; have NB146_149 := n5_; have NB149_146 := n6_; clear n0_ n1_ n2_ n3_ n4_ n5_ n6_; clear hb hbox hg; have hnb31 := NB149_146.out; have hnc31 := NB146_149.out; have hcz32_0 : w30.cell? ⟨gb149, 0, none⟩ = some (.int .i64 0) := (blk_cell BK149.out 0).trans rfl; have hcz32_1 : w30.cell? ⟨gb149, 1, none⟩ = some (.int .i64 0) := (blk_cell BK149.out 1).trans rfl; have hcz32_2 : w30.cell? ⟨gb149, 2, none⟩ = some (.int .i64 0) := (blk_cell BK149.out 2).trans rfl; have hfz32_0 := blk_frozen BK149.out 0; have hfz32_1 := blk_frozen BK149.out 1; have hfz32_2 := blk_frozen BK149.out 2) | (go_at_call 93; (with_reducible refine (mortmainref01_Gen.calls a1 t150 _ A13.out).mono ?_); rintro e w' ⟨rfl, ⟨nd, rfl⟩⟩; (try first | exact ⟨rfl, _, World.drewN_drewN _ _ _⟩ | exact ⟨rfl, _, Eq.trans (World.drewN_drewN _ _ _) (congrArg (World.drewN _) (Nat.add_assoc _ _ _))⟩))))
        go_ret2
        exact ⟨by first | rfl | (simp [errW_none, errW_some] <;> rfl) | (simp [*, errW_none, errW_some] <;> rfl), by repeat (first | (with_reducible first | exact HB.out | apply below_alloc | apply pw_below_drewN | apply below_drew1 | refine below_set ?_ GE146.out | refine below_set ?_ GE149.out) | exact HB.out)⟩
      ·rw [if_neg c12] at H
       exact absurd H (by simp)
     ·rw [if_neg c11] at H
      exact absurd H (by simp)
end Go.Proofs.Ytkmjboeabmmecaa.MAll
