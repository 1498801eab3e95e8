/- The functions that the law reaches in plain Lean, and that the calls come to what these say. No condition. (By wip/myprint.py, this session's program over the kit's print.) -/
import Derived.Test.YtkmjboeabmmecaaMAllx6
namespace Go.Proofs.Ytkmjboeabmmecaa.MAll
open Go.RowKit Go.Proofs.YtkmjboeabmmecaaW.PrintWords Go.Proofs.YtkmjboeabmmecaaW.PrintLast Go.Proofs.YtkmjboeabmmecaaW.PrintMore
attribute [local go_sem] max2_int min2_int max_two min_two max_three min_three max_four min_four
set_option linter.unusedVariables false
set_option linter.unusedSimpArgs false
def mortmainref03_Get.f (k : Nat) (l0_0 : List (S120)) (a0_1 : Int) (a1 : Int) : Option (Int × Int) := (mortmainref03_Find.f k l0_0 a0_1 a1).bind fun bt589 => (if bt589.2 = 0 then (if 0 ≤ bt589.1 then (if bt589.1 < (l0_0.length : Int) then (if ((rd_T120 l0_0 bt589.1).f0) = 2 then (some (0, 3)) else (some ((rd_T120 l0_0 bt589.1).f2, 0))) else (none)) else (none)) else (some (0, bt589.2)))
theorem mortmainref03_Get.mono : ∀ a0 a1 a2 k, LeO (mortmainref03_Get.f k a0 a1 a2) (mortmainref03_Get.f (k + 1) a0 a1 a2) := by
 intro a0 a1 a2 k
 unfold mortmainref03_Get.f
 repeat' first
   | (with_reducible exact mortmainref03_Find.mono _ _ _ _)
   | (with_reducible exact LeO.refl _)
   | (with_reducible exact LeO.none _)
   | (with_reducible refine LeO.ite ?_ ?_)
   | (with_reducible refine LeO.bind ?_ (fun _ => ?_))
   | exact mortmainref03_Find.mono _ _ _ _
   | exact LeO.none _
   | refine LeO.ite ?_ ?_
   | refine LeO.bind ?_ (fun _ => ?_)
set_option maxHeartbeats 8000000 in
set_option maxRecDepth 100000 in
theorem mortmainref03_Get.calls (k : Nat) (A0_0 : Option Addr) (c0_0 : Nat) (l0_0 : List (S120)) (a0_1 : Int) (a1 : Int) (r1 : Int) (r2 : Int) (w : World) (hr0_0 : Kd.C k120 w A0_0 l0_0.length l0_0) (hc0_0 : l0_0.length ≤ c0_0) (h : mortmainref03_Get.f k l0_0 a0_1 a1 = some (r1, r2)) :
  Calls Try.prog 136 #[.agg #[.slice A0_0 l0_0.length c0_0, .int .i64 a0_1], .int .i64 a1] w fun e w' => e = .returned (.tuple #[.int .i64 r1, .int .i64 r2]) ∧ Below w.heap.size w w' := by
 have hu78 := Try.underlying78
 have HR0_0 := Aside0.mk hr0_0
 have HC0_0 := Aside0.mk hc0_0
 clear hr0_0 hc0_0
 have HB := Aside0.mk (Below.refl w.heap.size w)
 have H : ((mortmainref03_Find.f k l0_0 a0_1 a1).bind fun bt589 => (if bt589.2 = 0 then (if 0 ≤ bt589.1 then (if bt589.1 < (l0_0.length : Int) then (if ((rd_T120 l0_0 bt589.1).f0) = 2 then (some (0, 3)) else (some ((rd_T120 l0_0 bt589.1).f2, 0))) else (none)) else (none)) else (some (0, bt589.2)))) = some (r1, r2) := h
 clear h
 replace H := Option.bind_eq_some_iff.mp H
 obtain ⟨⟨t589, t590⟩, A30, H⟩ := H
 replace H : (if t590 = 0 then (if 0 ≤ t589 then (if t589 < (l0_0.length : Int) then (if ((rd_T120 l0_0 t589).f0) = 2 then (some (0, 3)) else (some ((rd_T120 l0_0 t589).f2, 0))) else (none)) else (none)) else (some (0, t590))) = some (r1, r2) := H
 have A3 := Aside0.mk A30
 clear A30
 by_cases c4 : t590 = 0
 ·rw [if_pos c4] at H
  have c4b0 : (t590 == 0) = true := beq_iff_eq.mpr c4
  have c4b1 : (t590 != 0) = false := bne_eq_false_iff_eq.mpr c4
  clear c4
  by_cases c5 : 0 ≤ t589
  ·rw [if_pos c5] at H
   have c5b0 : decide (0 ≤ t589) = true := decide_eq_true c5
   clear c5
   by_cases c6 : t589 < (l0_0.length : Int)
   ·rw [if_pos c6] at H
    have c6b0 : decide (t589 < (l0_0.length : Int)) = true := decide_eq_true c6
    clear c6
    by_cases c7 : ((rd_T120 l0_0 t589).f0) = 2
    ·rw [if_pos c7] at H
     have c7b0 : (((rd_T120 l0_0 t589).f0) == 2) = true := beq_iff_eq.mpr c7
     have c7b1 : (((rd_T120 l0_0 t589).f0) != 2) = false := bne_eq_false_iff_eq.mpr c7
     clear c7
     simp only [Option.some.injEq, Prod.mk.injEq] at H
     obtain ⟨rfl, rfl⟩ := H
     go_enter Try.func136, Try.ntmps136
     go_wp2_with (first | ((with_reducible refine gate_dst (N := 2) rfl ?_); refine box_event ?hg (N := 2) ?hd (cs := #[.slice A0_0 l0_0.length c0_0, .int .i64 a0_1]) (t := 78) ?hr ?_; (case hd => rfl); (case hg => rfl); (case hr => first | (go_simp; done) | (go_simp; rfl)); intro gb588 hg w8 hbox hb; have n0_ := Aside0.mk (below_step bT hb); have n1_ := Aside0.mk (hbox); have n2_ := Aside0.mk (gT hg bT); have n3_ := Aside0.mk (gT hg bT); clear HB; have HB := n0_; have BK588 := n1_; have GW588 := n2_; have GE588 := n3_; clear n0_ n1_ n2_ n3_; clear hb hbox hg; have hcz9_0 : w8.cell? ⟨gb588, 0, none⟩ = some (.slice A0_0 l0_0.length c0_0) := (blk_cell BK588.out 0).trans rfl; have hcz9_1 : w8.cell? ⟨gb588, 1, none⟩ = some (.int .i64 a0_1) := (blk_cell BK588.out 1).trans rfl; have hfz9_0 := blk_frozen BK588.out 0; have hfz9_1 := blk_frozen BK588.out 1) | ((with_reducible refine gate_callee (f := 56) rfl ?_); refine goesL_ (some 11) rfl rfl Try.func56 (by kernel_rfl) rfl #[.agg #[.slice A0_0 l0_0.length c0_0, .int .i64 a0_1], .int .i64 a1] rfl mT ?_; (with_reducible refine (mortmainref03_Find.calls k _ _ l0_0 a0_1 a1 t589 t590 _ ?side1 ?side2 A3.out).mono ?_); (case side1 => repeat (first | exact (Kd.C_below HR0_0.out HB.out) | (with_reducible refine Kd.C_alloc ?_ _) | (with_reducible refine Kd.C_drewN ?_ _) | (with_reducible refine Kd.C_drew ?_))); (case side2 => exact HC0_0.out); rintro e w10 ⟨rfl, hb⟩; refine ⟨_, rfl, ?_⟩; have n0_ := Aside0.mk (blk_below (g := gb588) (o := .cells #[.slice A0_0 l0_0.length c0_0, .int .i64 a0_1] 78 (0, 0)) (kT BK588.out) hb); have n1_ := Aside0.mk (below_step (bG GE588.out) hb); clear BK588; clear HB; have BK588 := n0_; have HB := n1_; clear n0_ n1_; (try clear hb); (try clear hb2); (try clear hk); (try clear hi); have hcz11_0 : w10.cell? ⟨gb588, 0, none⟩ = some (.slice A0_0 l0_0.length c0_0) := (blk_cell BK588.out 0).trans rfl; have hcz11_1 : w10.cell? ⟨gb588, 1, none⟩ = some (.int .i64 a0_1) := (blk_cell BK588.out 1).trans rfl; have hfz11_0 := blk_frozen BK588.out 0; have hfz11_1 := blk_frozen BK588.out 1; have p591 : 0 ≤ (t589 : Int) := oT; have q591 : t589 < (l0_0.length : Int) := oT; obtain ⟨ad591, e591, hx591_0, hx591_1, hx591_2⟩ := at_T120 HR0_0.out t589 p591 q591; cases e591; replace hx591_0 := cT HB.out hx591_0; replace hx591_1 := cT HB.out hx591_1; replace hx591_2 := cT HB.out hx591_2; replace p591 := eq_true p591; replace q591 := eq_true q591))
     go_ret2
     exact ⟨by first | rfl | (simp [errW_none, errW_some] <;> rfl) | (simp [*, errW_none, errW_some] <;> rfl), by repeat (first | (with_reducible first | exact HB.out | apply below_alloc | apply pw_below_drewN | apply below_drew1 | refine below_set ?_ GE588.out) | exact HB.out)⟩
    ·rw [if_neg c7] at H
     have c7b0 : (((rd_T120 l0_0 t589).f0) == 2) = false := beq_eq_false_iff_ne.mpr c7
     have c7b1 : (((rd_T120 l0_0 t589).f0) != 2) = true := bne_iff_ne.mpr c7
     simp only [Option.some.injEq, Prod.mk.injEq] at H
     obtain ⟨rfl, rfl⟩ := H
     go_enter Try.func136, Try.ntmps136
     go_wp2_with (first | ((with_reducible refine gate_dst (N := 2) rfl ?_); refine box_event ?hg (N := 2) ?hd (cs := #[.slice A0_0 l0_0.length c0_0, .int .i64 a0_1]) (t := 78) ?hr ?_; (case hd => rfl); (case hg => rfl); (case hr => first | (go_simp; done) | (go_simp; rfl)); intro gb588 hg w12 hbox hb; have n0_ := Aside0.mk (below_step bT hb); have n1_ := Aside0.mk (hbox); have n2_ := Aside0.mk (gT hg bT); have n3_ := Aside0.mk (gT hg bT); clear HB; have HB := n0_; have BK588 := n1_; have GW588 := n2_; have GE588 := n3_; clear n0_ n1_ n2_ n3_; clear hb hbox hg; have hcz13_0 : w12.cell? ⟨gb588, 0, none⟩ = some (.slice A0_0 l0_0.length c0_0) := (blk_cell BK588.out 0).trans rfl; have hcz13_1 : w12.cell? ⟨gb588, 1, none⟩ = some (.int .i64 a0_1) := (blk_cell BK588.out 1).trans rfl; have hfz13_0 := blk_frozen BK588.out 0; have hfz13_1 := blk_frozen BK588.out 1) | ((with_reducible refine gate_callee (f := 56) rfl ?_); refine goesL_ (some 11) rfl rfl Try.func56 (by kernel_rfl) rfl #[.agg #[.slice A0_0 l0_0.length c0_0, .int .i64 a0_1], .int .i64 a1] rfl mT ?_; (with_reducible refine (mortmainref03_Find.calls k _ _ l0_0 a0_1 a1 t589 t590 _ ?side1 ?side2 A3.out).mono ?_); (case side1 => repeat (first | exact (Kd.C_below HR0_0.out HB.out) | (with_reducible refine Kd.C_alloc ?_ _) | (with_reducible refine Kd.C_drewN ?_ _) | (with_reducible refine Kd.C_drew ?_))); (case side2 => exact HC0_0.out); rintro e w14 ⟨rfl, hb⟩; refine ⟨_, rfl, ?_⟩; have n0_ := Aside0.mk (blk_below (g := gb588) (o := .cells #[.slice A0_0 l0_0.length c0_0, .int .i64 a0_1] 78 (0, 0)) (kT BK588.out) hb); have n1_ := Aside0.mk (below_step (bG GE588.out) hb); clear BK588; clear HB; have BK588 := n0_; have HB := n1_; clear n0_ n1_; (try clear hb); (try clear hb2); (try clear hk); (try clear hi); have hcz15_0 : w14.cell? ⟨gb588, 0, none⟩ = some (.slice A0_0 l0_0.length c0_0) := (blk_cell BK588.out 0).trans rfl; have hcz15_1 : w14.cell? ⟨gb588, 1, none⟩ = some (.int .i64 a0_1) := (blk_cell BK588.out 1).trans rfl; have hfz15_0 := blk_frozen BK588.out 0; have hfz15_1 := blk_frozen BK588.out 1; have p591 : 0 ≤ (t589 : Int) := oT; have q591 : t589 < (l0_0.length : Int) := oT; obtain ⟨ad591, e591, hx591_0, hx591_1, hx591_2⟩ := at_T120 HR0_0.out t589 p591 q591; cases e591; replace hx591_0 := cT HB.out hx591_0; replace hx591_1 := cT HB.out hx591_1; replace hx591_2 := cT HB.out hx591_2; replace p591 := eq_true p591; replace q591 := eq_true q591; have p592 : 0 ≤ (t589 : Int) := oT; have q592 : t589 < (l0_0.length : Int) := oT; obtain ⟨ad592, e592, hx592_0, hx592_1, hx592_2⟩ := at_T120 HR0_0.out t589 p592 q592; obtain rfl : ad591 = ad592 := (by injection e592); replace hx592_0 := cT HB.out hx592_0; replace hx592_1 := cT HB.out hx592_1; replace hx592_2 := cT HB.out hx592_2; replace p592 := eq_true p592; replace q592 := eq_true q592))
     go_ret2
     exact ⟨by first | rfl | (simp [errW_none, errW_some] <;> rfl) | (simp [*, errW_none, errW_some] <;> rfl), by repeat (first | (with_reducible first | exact HB.out | apply below_alloc | apply pw_below_drewN | apply below_drew1 | refine below_set ?_ GE588.out) | exact HB.out)⟩
   ·rw [if_neg c6] at H
    exact absurd H (by simp)
  ·rw [if_neg c5] at H
   exact absurd H (by simp)
 ·rw [if_neg c4] at H
  have c4b0 : (t590 == 0) = false := beq_eq_false_iff_ne.mpr c4
  have c4b1 : (t590 != 0) = true := bne_iff_ne.mpr c4
  simp only [Option.some.injEq, Prod.mk.injEq] at H
  obtain ⟨rfl, rfl⟩ := H
  go_enter Try.func136, Try.ntmps136
  go_wp2_with (first | ((with_reducible refine gate_dst (N := 2) rfl ?_); refine box_event ?hg (N := 2) ?hd (cs := #[.slice A0_0 l0_0.length c0_0, .int .i64 a0_1]) (t := 78) ?hr ?_; (case hd => rfl); (case hg => rfl); (case hr => first | (go_simp; done) | (go_simp; rfl)); intro gb588 hg w16 hbox hb; have n0_ := Aside0.mk (below_step bT hb); have n1_ := Aside0.mk (hbox); have n2_ := Aside0.mk (gT hg bT); have n3_ := Aside0.mk (gT hg bT); clear HB; have HB := n0_; have BK588 := n1_; have GW588 := n2_; have GE588 := n3_; clear n0_ n1_ n2_ n3_; clear hb hbox hg; have hcz17_0 : w16.cell? ⟨gb588, 0, none⟩ = some (.slice A0_0 l0_0.length c0_0) := (blk_cell BK588.out 0).trans rfl; have hcz17_1 : w16.cell? ⟨gb588, 1, none⟩ = some (.int .i64 a0_1) := (blk_cell BK588.out 1).trans rfl; have hfz17_0 := blk_frozen BK588.out 0; have hfz17_1 := blk_frozen BK588.out 1) | ((with_reducible refine gate_callee (f := 56) rfl ?_); refine goesL_ (some 11) rfl rfl Try.func56 (by kernel_rfl) rfl #[.agg #[.slice A0_0 l0_0.length c0_0, .int .i64 a0_1], .int .i64 a1] rfl mT ?_; (with_reducible refine (mortmainref03_Find.calls k _ _ l0_0 a0_1 a1 t589 t590 _ ?side1 ?side2 A3.out).mono ?_); (case side1 => repeat (first | exact (Kd.C_below HR0_0.out HB.out) | (with_reducible refine Kd.C_alloc ?_ _) | (with_reducible refine Kd.C_drewN ?_ _) | (with_reducible refine Kd.C_drew ?_))); (case side2 => exact HC0_0.out); rintro e w18 ⟨rfl, hb⟩; refine ⟨_, rfl, ?_⟩; have n0_ := Aside0.mk (blk_below (g := gb588) (o := .cells #[.slice A0_0 l0_0.length c0_0, .int .i64 a0_1] 78 (0, 0)) (kT BK588.out) hb); have n1_ := Aside0.mk (below_step (bG GE588.out) hb); clear BK588; clear HB; have BK588 := n0_; have HB := n1_; clear n0_ n1_; (try clear hb); (try clear hb2); (try clear hk); (try clear hi)))
  go_ret2
  exact ⟨by first | rfl | (simp [errW_none, errW_some] <;> rfl) | (simp [*, errW_none, errW_some] <;> rfl), by repeat (first | (with_reducible first | exact HB.out | apply below_alloc | apply pw_below_drewN | apply below_drew1 | refine below_set ?_ GE588.out) | exact HB.out)⟩
def mortmainref06_Get.f (k : Nat) (l0_0 : List (S84)) (a0_1 : Int) (a0_2 : Int) (a1 : Int) : Option (Int × Int × Int × Int × Bool × List Int × Int) := (mortmainref06_Plain.f k l0_0 a0_1 a0_2).bind fun bt595 => ((mortmainref03_Get.f k bt595.1 bt595.2 a1).bind fun bt599 => (if bt599.2 = 0 then (if 0 ≤ bt599.1 then (if bt599.1 < (l0_0.length : Int) then (some ((rd_T84 l0_0 bt599.1).f2.f0, (rd_T84 l0_0 bt599.1).f2.f1, (rd_T84 l0_0 bt599.1).f2.f2, (rd_T84 l0_0 bt599.1).f2.f3, (rd_T84 l0_0 bt599.1).f2.f4, (rd_T84 l0_0 bt599.1).f2.f5, 0)) else (none)) else (none)) else (some (0, 0, 0, 0, false, ([] : List Int), bt599.2))))
theorem mortmainref06_Get.mono : ∀ a0 a1 a2 a3 k, LeO (mortmainref06_Get.f k a0 a1 a2 a3) (mortmainref06_Get.f (k + 1) a0 a1 a2 a3) := by
 intro a0 a1 a2 a3 k
 unfold mortmainref06_Get.f
 repeat' first
   | (with_reducible exact mortmainref03_Get.mono _ _ _ _)
   | (with_reducible exact mortmainref06_Plain.mono _ _ _ _)
   | (with_reducible exact LeO.refl _)
   | (with_reducible exact LeO.none _)
   | (with_reducible refine LeO.ite ?_ ?_)
   | (with_reducible refine LeO.bind ?_ (fun _ => ?_))
   | exact mortmainref03_Get.mono _ _ _ _
   | exact mortmainref06_Plain.mono _ _ _ _
   | exact LeO.none _
   | refine LeO.ite ?_ ?_
   | refine LeO.bind ?_ (fun _ => ?_)
set_option maxHeartbeats 8000000 in
set_option maxRecDepth 100000 in
theorem mortmainref06_Get.calls (k : Nat) (P0_0_ : Nat → Prop) (A0_0 : Option Addr) (c0_0 : Nat) (l0_0 : List (S84)) (a0_1 : Int) (a0_2 : Int) (a1 : Int) (r1 : Int) (r2 : Int) (r3 : Int) (r4 : Int) (r5 : Bool) (r6 : List Int) (r7 : Int) (w : World) (hs0_0 : Kd.V k84 84 w w.heap.size (fun k_ => P0_0_ k_) (.slice A0_0 l0_0.length c0_0) l0_0) (h : mortmainref06_Get.f k l0_0 a0_1 a0_2 a1 = some (r1, r2, r3, r4, r5, r6, r7)) :
  Calls Try.prog 114 #[.agg #[.slice A0_0 l0_0.length c0_0, .int .i64 a0_1, .int .i64 a0_2], .int .i64 a1] w fun e w' => ∃ v5_ : Value, e = .returned (.tuple #[.agg #[.int .i64 r1, .int .i64 r2, .int .i64 r3, .int .i64 r4, .bool r5, v5_], .int .i64 r7]) ∧ Kd.V (Kd.int .i64) 3 w' w.heap.size (fun k_ => (P0_0_ k_ ∨ w.heap.size ≤ k_)) v5_ r6 ∧ Below w.heap.size w w' := by
 have hu37 := Try.underlying37
 have hu41 := Try.underlying41
 have HO0_0 := Aside0.mk (show Kd.V k84 84 w w.heap.size (fun k_ => (P0_0_ k_ ∨ w.heap.size ≤ k_)) (.slice A0_0 l0_0.length c0_0) l0_0 from Kd.V_mono hs0_0 (fun k_ hk => .inl hk))
 have HB := Aside0.mk (Below.refl w.heap.size w)
 have H : ((mortmainref06_Plain.f k l0_0 a0_1 a0_2).bind fun bt595 => ((mortmainref03_Get.f k bt595.1 bt595.2 a1).bind fun bt599 => (if bt599.2 = 0 then (if 0 ≤ bt599.1 then (if bt599.1 < (l0_0.length : Int) then (some ((rd_T84 l0_0 bt599.1).f2.f0, (rd_T84 l0_0 bt599.1).f2.f1, (rd_T84 l0_0 bt599.1).f2.f2, (rd_T84 l0_0 bt599.1).f2.f3, (rd_T84 l0_0 bt599.1).f2.f4, (rd_T84 l0_0 bt599.1).f2.f5, 0)) else (none)) else (none)) else (some (0, 0, 0, 0, false, ([] : List Int), bt599.2))))) = some (r1, r2, r3, r4, r5, r6, r7) := h
 clear h
 replace H := Option.bind_eq_some_iff.mp H
 obtain ⟨⟨t595, t598⟩, A30, H⟩ := H
 replace H : ((mortmainref03_Get.f k t595 t598 a1).bind fun bt599 => (if bt599.2 = 0 then (if 0 ≤ bt599.1 then (if bt599.1 < (l0_0.length : Int) then (some ((rd_T84 l0_0 bt599.1).f2.f0, (rd_T84 l0_0 bt599.1).f2.f1, (rd_T84 l0_0 bt599.1).f2.f2, (rd_T84 l0_0 bt599.1).f2.f3, (rd_T84 l0_0 bt599.1).f2.f4, (rd_T84 l0_0 bt599.1).f2.f5, 0)) else (none)) else (none)) else (some (0, 0, 0, 0, false, ([] : List Int), bt599.2)))) = some (r1, r2, r3, r4, r5, r6, r7) := H
 have A3 := Aside0.mk A30
 clear A30
 replace H := Option.bind_eq_some_iff.mp H
 obtain ⟨⟨t599, t600⟩, A40, H⟩ := H
 replace H : (if t600 = 0 then (if 0 ≤ t599 then (if t599 < (l0_0.length : Int) then (some ((rd_T84 l0_0 t599).f2.f0, (rd_T84 l0_0 t599).f2.f1, (rd_T84 l0_0 t599).f2.f2, (rd_T84 l0_0 t599).f2.f3, (rd_T84 l0_0 t599).f2.f4, (rd_T84 l0_0 t599).f2.f5, 0)) else (none)) else (none)) else (some (0, 0, 0, 0, false, ([] : List Int), t600))) = some (r1, r2, r3, r4, r5, r6, r7) := H
 have A4 := Aside0.mk A40
 clear A40
 by_cases c5 : t600 = 0
 ·rw [if_pos c5] at H
  have c5b0 : (t600 == 0) = true := beq_iff_eq.mpr c5
  have c5b1 : (t600 != 0) = false := bne_eq_false_iff_eq.mpr c5
  clear c5
  by_cases c6 : 0 ≤ t599
  ·rw [if_pos c6] at H
   have c6b0 : decide (0 ≤ t599) = true := decide_eq_true c6
   clear c6
   by_cases c7 : t599 < (l0_0.length : Int)
   ·rw [if_pos c7] at H
    have c7b0 : decide (t599 < (l0_0.length : Int)) = true := decide_eq_true c7
    clear c7
    simp only [Option.some.injEq, Prod.mk.injEq] at H
    obtain ⟨rfl, rfl, rfl, rfl, rfl, rfl, rfl⟩ := H
    go_enter Try.func114, Try.ntmps114
    go_wp2_with (first | ((with_reducible refine gate_dst (N := 2) rfl ?_); refine box_event ?hg (N := 2) ?hd (cs := #[.slice A0_0 l0_0.length c0_0, .int .i64 a0_1, .int .i64 a0_2]) (t := 37) ?hr ?_; (case hd => rfl); (case hg => rfl); (case hr => first | (go_simp; done) | (go_simp; rfl)); intro gb593 hg w8 hbox hb; have n0_ := Aside0.mk (Kd.V_below (Kd.V_elderB (by (with_reducible repeat (first | apply Kd.V_alloc | apply Kd.V_drewN | apply Kd.V_drew)); exact HO0_0.out) gb593 (Nat.le_of_eq hg.symm)) hb); have n1_ := Aside0.mk (below_step bT hb); have n2_ := Aside0.mk (hbox); have n3_ := Aside0.mk (gT hg bT); have n4_ := Aside0.mk (gT hg bT); clear HO0_0; clear HB; have HO0_0 := n0_; have HB := n1_; have BK593 := n2_; have GW593 := n3_; have GE593 := n4_; clear n0_ n1_ n2_ n3_ n4_; clear hb hbox hg) | ((with_reducible refine gate_dst (N := 4) rfl ?_); refine box_event ?hg (N := 4) ?hd (cs := #[.int .i64 0, .int .i64 0, .int .i64 0, .int .i64 0, .bool false, .slice none 0 0]) (t := 41) ?hr ?_; (case hd => rfl); (case hg => rfl); (case hr => first | (go_simp; done) | (go_simp; rfl)); intro gb594 hg w9 hbox hb; have n0_ := Aside0.mk (Kd.V_below (Kd.V_elderB (by (with_reducible repeat (first | apply Kd.V_alloc | apply Kd.V_drewN | apply Kd.V_drew)); exact HO0_0.out) gb594 (Nat.le_of_eq hg.symm)) hb); have n1_ := Aside0.mk (blk_below (g := gb593) (o := .cells #[.slice A0_0 l0_0.length c0_0, .int .i64 a0_1, .int .i64 a0_2] 37 (0, 0)) (kT BK593.out) hb); have n2_ := Aside0.mk (below_step (bG GE593.out) hb); have n3_ := Aside0.mk (hbox); have n4_ := Aside0.mk (gT hg (bG GE593.out)); have n5_ := Aside0.mk (gT hg (bG GE593.out)); have n6_ := Aside0.mk ((by rw [hg]; exact Nat.ne_of_lt (blk_lt (g := gb593) (o := .cells #[.slice A0_0 l0_0.length c0_0, .int .i64 a0_1, .int .i64 a0_2] 37 (0, 0)) (kT BK593.out)) : gb593 ≠ gb594)); have n7_ := Aside0.mk ((by rw [hg]; exact Nat.ne_of_gt (blk_lt (g := gb593) (o := .cells #[.slice A0_0 l0_0.length c0_0, .int .i64 a0_1, .int .i64 a0_2] 37 (0, 0)) (kT BK593.out)) : gb594 ≠ gb593)); clear HO0_0; clear BK593; clear HB; have HO0_0 := n0_; have BK593 := n1_; have HB := n2_; have BK594 := n3_; have GW594 := n4_; have GE594 := n5_; have NB593_594 := n6_; have NB594_593 := n7_; clear n0_ n1_ n2_ n3_ n4_ n5_ n6_ n7_; clear hb hbox hg; have hnb10 := NB593_594.out; have hnc10 := NB594_593.out; have hcz11_0 : w9.cell? ⟨gb593, 0, none⟩ = some (.slice A0_0 l0_0.length c0_0) := (blk_cell BK593.out 0).trans rfl; have hcz11_1 : w9.cell? ⟨gb593, 1, none⟩ = some (.int .i64 a0_1) := (blk_cell BK593.out 1).trans rfl; have hcz11_2 : w9.cell? ⟨gb593, 2, none⟩ = some (.int .i64 a0_2) := (blk_cell BK593.out 2).trans rfl; have hfz11_0 := blk_frozen BK593.out 0; have hfz11_1 := blk_frozen BK593.out 1; have hfz11_2 := blk_frozen BK593.out 2) | ((with_reducible refine gate_callee (f := 57) rfl ?_); refine goesL_ (some 10) rfl rfl Try.func57 (by kernel_rfl) rfl #[.agg #[.slice A0_0 l0_0.length c0_0, .int .i64 a0_1, .int .i64 a0_2]] rfl mT ?_; (with_reducible refine (mortmainref06_Plain.calls k _ _ l0_0 a0_1 a0_2 t595 t598 _ ?side1 ?side2 A3.out).mono ?_); (case side1 => repeat (first | exact (Kd.V_reads' HO0_0.out).2.2 | (with_reducible refine Kd.C_alloc ?_ _) | (with_reducible refine Kd.C_drewN ?_ _) | (with_reducible refine Kd.C_drew ?_))); (case side2 => exact (Kd.V_reads' HO0_0.out).2.1); rintro e w12 ⟨v596, rfl, ho0, hb⟩; refine ⟨_, rfl, ?_⟩; have n0_ := Aside0.mk (Kd.V_elder' (by (with_reducible repeat (first | apply Kd.V_alloc | apply Kd.V_drewN | apply Kd.V_drew)); exact HO0_0.out) (Kd.R_base ho0) hb); have n1_ := Aside0.mk (Kd.R_lower (Kd.R_newM (M := fun k_ => (w.heap.size ≤ k_)) ho0 (below_size (bH GE593.out GE594.out)) (fun k_ h_ => h_)) (below_size (bH GE593.out GE594.out))); have n2_ := Aside0.mk (blk_below (g := gb593) (o := .cells #[.slice A0_0 l0_0.length c0_0, .int .i64 a0_1, .int .i64 a0_2] 37 (0, 0)) (kT BK593.out) hb); have n3_ := Aside0.mk (blk_below (g := gb594) (o := .cells #[.int .i64 0, .int .i64 0, .int .i64 0, .int .i64 0, .bool false, .slice none 0 0] 41 (0, 0)) (kT BK594.out) hb); have n4_ := Aside0.mk (below_step (bH GE593.out GE594.out) hb); clear HO0_0; clear BK593; clear BK594; clear HB; have HO0_0 := n0_; have HO597 := n1_; have BK593 := n2_; have BK594 := n3_; have HB := n4_; clear n0_ n1_ n2_ n3_ n4_; (try clear hb); (try clear hb2); (try clear hk); (try clear hi); (try clear ho0); obtain ⟨Ao13, co13, eo13⟩ := Kd.R_slice HO597.out; subst eo13) | ((with_reducible refine gate_callee (f := 136) rfl ?_); refine goesL_ (some 12) rfl rfl Try.func136 (by kernel_rfl) rfl #[.agg #[.slice Ao13 t595.length co13, .int .i64 t598], .int .i64 a1] rfl mT ?_; (with_reducible refine (mortmainref03_Get.calls k _ _ t595 t598 a1 t599 t600 _ ?side1 ?side2 A4.out).mono ?_); (case side1 => repeat (first | exact (Kd.R_reads' HO597.out).2.2 | (with_reducible refine Kd.C_alloc ?_ _) | (with_reducible refine Kd.C_drewN ?_ _) | (with_reducible refine Kd.C_drew ?_))); (case side2 => exact (Kd.R_reads' HO597.out).2.1); rintro e w14 ⟨rfl, hb⟩; refine ⟨_, rfl, ?_⟩; have n0_ := Aside0.mk (Kd.V_below (by (with_reducible repeat (first | apply Kd.V_alloc | apply Kd.V_drewN | apply Kd.V_drew)); exact HO0_0.out) hb); have n1_ := Aside0.mk (Kd.R_below (rT HO597.out) hb); have n2_ := Aside0.mk (blk_below (g := gb593) (o := .cells #[.slice A0_0 l0_0.length c0_0, .int .i64 a0_1, .int .i64 a0_2] 37 (0, 0)) (kT BK593.out) hb); have n3_ := Aside0.mk (blk_below (g := gb594) (o := .cells #[.int .i64 0, .int .i64 0, .int .i64 0, .int .i64 0, .bool false, .slice none 0 0] 41 (0, 0)) (kT BK594.out) hb); have n4_ := Aside0.mk (below_step (bH GE593.out GE594.out) hb); clear HO0_0; clear HO597; clear BK593; clear BK594; clear HB; have HO0_0 := n0_; have HO597 := n1_; have BK593 := n2_; have BK594 := n3_; have HB := n4_; clear n0_ n1_ n2_ n3_ n4_; (try clear hb); (try clear hb2); (try clear hk); (try clear hi); have hcz15_0 : w14.cell? ⟨gb593, 0, none⟩ = some (.slice A0_0 l0_0.length c0_0) := (blk_cell BK593.out 0).trans rfl; have hcz15_1 : w14.cell? ⟨gb593, 1, none⟩ = some (.int .i64 a0_1) := (blk_cell BK593.out 1).trans rfl; have hcz15_2 : w14.cell? ⟨gb593, 2, none⟩ = some (.int .i64 a0_2) := (blk_cell BK593.out 2).trans rfl; have hfz15_0 := blk_frozen BK593.out 0; have hfz15_1 := blk_frozen BK593.out 1; have hfz15_2 := blk_frozen BK593.out 2; have p601 : 0 ≤ (t599 : Int) := oT; have q601 : t599 < (l0_0.length : Int) := oT; obtain ⟨ad601, A601_7, c601_7, e601, hx601_0, hx601_1, hx601_2, hx601_3, hx601_4, hx601_5, hx601_6, hx601_7, hl601_7, hi601_7⟩ := at_T84 (Kd.V_reads' HO0_0.out).2.2 t599 p601 q601; cases e601; obtain ⟨ce601, hce601, hMe601, hcc601⟩ := Kd.V_get HO0_0.out z84 t599 p601 (by first | exact q601 | exact oT | (have e_ := (Kd.V_reads' HO0_0.out).1; omega)); obtain ⟨ua601_7, uc601_7, rfl, ul601_7, ge601_7⟩ := k84_openF hMe601; have hv601_7 := hcc601 7 _ rfl; rw [add_field _ _ 7 (by omega)] at hv601_7; replace hv601_7 := Option.some.inj (hv601_7.symm.trans hx601_7); injection hv601_7 with hva_ hvn_ hvc_; rw [hva_] at ge601_7; rw [hvc_] at ul601_7; have HL601_7 := Aside0.mk (show Kd.V (Kd.int .i64) 3 _ w.heap.size _ _ ((rd_T84 l0_0 t599).f2.f5) from Kd.V_mk ul601_7 ge601_7); clear hva_ hvn_ hvc_ ge601_7 ul601_7; clear hcc601 hce601; have HR601_7 := Aside0.mk hi601_7; have HC601_7 := Aside0.mk hl601_7; clear hi601_7 hl601_7; replace p601 := eq_true p601; replace q601 := eq_true q601; have hcz16_0 : w14.cell? ⟨gb594, 0, none⟩ = some (.int .i64 0) := (blk_cell BK594.out 0).trans rfl; have hcz16_1 : w14.cell? ⟨gb594, 1, none⟩ = some (.int .i64 0) := (blk_cell BK594.out 1).trans rfl; have hcz16_2 : w14.cell? ⟨gb594, 2, none⟩ = some (.int .i64 0) := (blk_cell BK594.out 2).trans rfl; have hcz16_3 : w14.cell? ⟨gb594, 3, none⟩ = some (.int .i64 0) := (blk_cell BK594.out 3).trans rfl; have hcz16_4 : w14.cell? ⟨gb594, 4, none⟩ = some (.bool false) := (blk_cell BK594.out 4).trans rfl; have hcz16_5 : w14.cell? ⟨gb594, 5, none⟩ = some (.slice none 0 0) := (blk_cell BK594.out 5).trans rfl; have hfz16_0 := blk_frozen BK594.out 0; have hfz16_1 := blk_frozen BK594.out 1; have hfz16_2 := blk_frozen BK594.out 2; have hfz16_3 := blk_frozen BK594.out 3; have hfz16_4 := blk_frozen BK594.out 4; have hfz16_5 := blk_frozen BK594.out 5))
    refine bodyPost_ret (results_ct rfl _ _ gb594 41 #[.int .i64 ((rd_T84 l0_0 t599).f2.f0), .int .i64 ((rd_T84 l0_0 t599).f2.f1), .int .i64 ((rd_T84 l0_0 t599).f2.f2), .int .i64 ((rd_T84 l0_0 t599).f2.f3), .bool ((rd_T84 l0_0 t599).f2.f4), .slice A601_7 ((rd_T84 l0_0 t599).f2.f5).length c601_7] (0, 0) _ rfl (by (with_reducible repeat (first | refine blk_drewN ?_ _ | refine blk_drew ?_ | refine blk_alloc ?_ _)); refine blk_put (cs := #[.int .i64 ((rd_T84 l0_0 t599).f2.f0), .int .i64 ((rd_T84 l0_0 t599).f2.f1), .int .i64 ((rd_T84 l0_0 t599).f2.f2), .int .i64 ((rd_T84 l0_0 t599).f2.f3), .bool ((rd_T84 l0_0 t599).f2.f4), .slice none 0 0]) ?_ 5 _ rfl; (with_reducible repeat (first | refine blk_drewN ?_ _ | refine blk_drew ?_ | refine blk_alloc ?_ _)); refine blk_put (cs := #[.int .i64 ((rd_T84 l0_0 t599).f2.f0), .int .i64 ((rd_T84 l0_0 t599).f2.f1), .int .i64 ((rd_T84 l0_0 t599).f2.f2), .int .i64 ((rd_T84 l0_0 t599).f2.f3), .bool false, .slice none 0 0]) ?_ 4 _ rfl; (with_reducible repeat (first | refine blk_drewN ?_ _ | refine blk_drew ?_ | refine blk_alloc ?_ _)); refine blk_put (cs := #[.int .i64 ((rd_T84 l0_0 t599).f2.f0), .int .i64 ((rd_T84 l0_0 t599).f2.f1), .int .i64 ((rd_T84 l0_0 t599).f2.f2), .int .i64 0, .bool false, .slice none 0 0]) ?_ 3 _ rfl; (with_reducible repeat (first | refine blk_drewN ?_ _ | refine blk_drew ?_ | refine blk_alloc ?_ _)); refine blk_put (cs := #[.int .i64 ((rd_T84 l0_0 t599).f2.f0), .int .i64 ((rd_T84 l0_0 t599).f2.f1), .int .i64 0, .int .i64 0, .bool false, .slice none 0 0]) ?_ 2 _ rfl; (with_reducible repeat (first | refine blk_drewN ?_ _ | refine blk_drew ?_ | refine blk_alloc ?_ _)); refine blk_put (cs := #[.int .i64 ((rd_T84 l0_0 t599).f2.f0), .int .i64 0, .int .i64 0, .int .i64 0, .bool false, .slice none 0 0]) ?_ 1 _ rfl; (with_reducible repeat (first | refine blk_drewN ?_ _ | refine blk_drew ?_ | refine blk_alloc ?_ _)); refine blk_put (cs := #[.int .i64 0, .int .i64 0, .int .i64 0, .int .i64 0, .bool false, .slice none 0 0]) ?_ 0 _ rfl; (with_reducible repeat (first | refine blk_drewN ?_ _ | refine blk_drew ?_ | refine blk_alloc ?_ _)); exact BK594.out) Try.underlying41 rfl (by kernel_rfl)) rfl ?_
    exact ⟨_, by first | rfl | (simp [errW_none, errW_some] <;> rfl) | (simp [*, errW_none, errW_some] <;> rfl), by (with_reducible repeat (first | apply Kd.V_alloc | apply Kd.V_drewN | apply Kd.V_drew)); exact Kd.V_mono (Kd.V_far (p := ⟨gb594, 5, none⟩) (Kd.V_far (p := ⟨gb594, 4, none⟩) (Kd.V_far (p := ⟨gb594, 3, none⟩) (Kd.V_far (p := ⟨gb594, 2, none⟩) (Kd.V_far (p := ⟨gb594, 1, none⟩) (Kd.V_far (p := ⟨gb594, 0, none⟩) (Kd.V_mono HL601_7.out (fun k_ hk => (⟨hk, hk.1.2⟩ : _ ∧ k_ ≠ gb594))) (fun _ hk => hk.2) (.int .i64 ((rd_T84 l0_0 t599).f2.f0))) (fun _ hk => hk.2) (.int .i64 ((rd_T84 l0_0 t599).f2.f1))) (fun _ hk => hk.2) (.int .i64 ((rd_T84 l0_0 t599).f2.f2))) (fun _ hk => hk.2) (.int .i64 ((rd_T84 l0_0 t599).f2.f3))) (fun _ hk => hk.2) (.bool ((rd_T84 l0_0 t599).f2.f4))) (fun _ hk => hk.2) (.slice A601_7 ((rd_T84 l0_0 t599).f2.f5).length c601_7)) (fun _ hk => hk.1.1.1.1), by repeat (first | (with_reducible first | exact HB.out | apply below_alloc | apply pw_below_drewN | apply below_drew1 | refine below_set ?_ GE593.out | refine below_set ?_ GE594.out) | exact HB.out)⟩
   ·rw [if_neg c7] at H
    exact absurd H (by simp)
  ·rw [if_neg c6] at H
   exact absurd H (by simp)
 ·rw [if_neg c5] at H
  have c5b0 : (t600 == 0) = false := beq_eq_false_iff_ne.mpr c5
  have c5b1 : (t600 != 0) = true := bne_iff_ne.mpr c5
  simp only [Option.some.injEq, Prod.mk.injEq] at H
  obtain ⟨rfl, rfl, rfl, rfl, rfl, rfl, rfl⟩ := H
  go_enter Try.func114, Try.ntmps114
  go_wp2_with (first | ((with_reducible refine gate_dst (N := 2) rfl ?_); refine box_event ?hg (N := 2) ?hd (cs := #[.slice A0_0 l0_0.length c0_0, .int .i64 a0_1, .int .i64 a0_2]) (t := 37) ?hr ?_; (case hd => rfl); (case hg => rfl); (case hr => first | (go_simp; done) | (go_simp; rfl)); intro gb593 hg w17 hbox hb; have n0_ := Aside0.mk (Kd.V_below (Kd.V_elderB (by (with_reducible repeat (first | apply Kd.V_alloc | apply Kd.V_drewN | apply Kd.V_drew)); exact HO0_0.out) gb593 (Nat.le_of_eq hg.symm)) hb); have n1_ := Aside0.mk (below_step bT hb); have n2_ := Aside0.mk (hbox); have n3_ := Aside0.mk (gT hg bT); have n4_ := Aside0.mk (gT hg bT); clear HO0_0; clear HB; have HO0_0 := n0_; have HB := n1_; have BK593 := n2_; have GW593 := n3_; have GE593 := n4_; clear n0_ n1_ n2_ n3_ n4_; clear hb hbox hg) | ((with_reducible refine gate_dst (N := 4) rfl ?_); refine box_event ?hg (N := 4) ?hd (cs := #[.int .i64 0, .int .i64 0, .int .i64 0, .int .i64 0, .bool false, .slice none 0 0]) (t := 41) ?hr ?_; (case hd => rfl); (case hg => rfl); (case hr => first | (go_simp; done) | (go_simp; rfl)); intro gb594 hg w18 hbox hb; have n0_ := Aside0.mk (Kd.V_below (Kd.V_elderB (by (with_reducible repeat (first | apply Kd.V_alloc | apply Kd.V_drewN | apply Kd.V_drew)); exact HO0_0.out) gb594 (Nat.le_of_eq hg.symm)) hb); have n1_ := Aside0.mk (blk_below (g := gb593) (o := .cells #[.slice A0_0 l0_0.length c0_0, .int .i64 a0_1, .int .i64 a0_2] 37 (0, 0)) (kT BK593.out) hb); have n2_ := Aside0.mk (below_step (bG GE593.out) hb); have n3_ := Aside0.mk (hbox); have n4_ := Aside0.mk (gT hg (bG GE593.out)); have n5_ := Aside0.mk (gT hg (bG GE593.out)); have n6_ := Aside0.mk ((by rw [hg]; exact Nat.ne_of_lt (blk_lt (g := gb593) (o := .cells #[.slice A0_0 l0_0.length c0_0, .int .i64 a0_1, .int .i64 a0_2] 37 (0, 0)) (kT BK593.out)) : gb593 ≠ gb594)); have n7_ := Aside0.mk ((by rw [hg]; exact Nat.ne_of_gt (blk_lt (g := gb593) (o := .cells #[.slice A0_0 l0_0.length c0_0, .int .i64 a0_1, .int .i64 a0_2] 37 (0, 0)) (kT BK593.out)) : gb594 ≠ gb593)); clear HO0_0; clear BK593; clear HB; have HO0_0 := n0_; have BK593 := n1_; have HB := n2_; have BK594 := n3_; have GW594 := n4_; have GE594 := n5_; have NB593_594 := n6_; have NB594_593 := n7_; clear n0_ n1_ n2_ n3_ n4_ n5_ n6_ n7_; clear hb hbox hg; have hnb19 := NB593_594.out; have hnc19 := NB594_593.out; have hcz20_0 : w18.cell? ⟨gb593, 0, none⟩ = some (.slice A0_0 l0_0.length c0_0) := (blk_cell BK593.out 0).trans rfl; have hcz20_1 : w18.cell? ⟨gb593, 1, none⟩ = some (.int .i64 a0_1) := (blk_cell BK593.out 1).trans rfl; have hcz20_2 : w18.cell? ⟨gb593, 2, none⟩ = some (.int .i64 a0_2) := (blk_cell BK593.out 2).trans rfl; have hfz20_0 := blk_frozen BK593.out 0; have hfz20_1 := blk_frozen BK593.out 1; have hfz20_2 := blk_frozen BK593.out 2) | ((with_reducible refine gate_callee (f := 57) rfl ?_); refine goesL_ (some 10) rfl rfl Try.func57 (by kernel_rfl) rfl #[.agg #[.slice A0_0 l0_0.length c0_0, .int .i64 a0_1, .int .i64 a0_2]] rfl mT ?_; (with_reducible refine (mortmainref06_Plain.calls k _ _ l0_0 a0_1 a0_2 t595 t598 _ ?side1 ?side2 A3.out).mono ?_); (case side1 => repeat (first | exact (Kd.V_reads' HO0_0.out).2.2 | (with_reducible refine Kd.C_alloc ?_ _) | (with_reducible refine Kd.C_drewN ?_ _) | (with_reducible refine Kd.C_drew ?_))); (case side2 => exact (Kd.V_reads' HO0_0.out).2.1); rintro e w21 ⟨v596, rfl, ho0, hb⟩; refine ⟨_, rfl, ?_⟩; have n0_ := Aside0.mk (Kd.V_elder' (by (with_reducible repeat (first | apply Kd.V_alloc | apply Kd.V_drewN | apply Kd.V_drew)); exact HO0_0.out) (Kd.R_base ho0) hb); have n1_ := Aside0.mk (Kd.R_lower (Kd.R_newM (M := fun k_ => (w.heap.size ≤ k_)) ho0 (below_size (bH GE593.out GE594.out)) (fun k_ h_ => h_)) (below_size (bH GE593.out GE594.out))); have n2_ := Aside0.mk (blk_below (g := gb593) (o := .cells #[.slice A0_0 l0_0.length c0_0, .int .i64 a0_1, .int .i64 a0_2] 37 (0, 0)) (kT BK593.out) hb); have n3_ := Aside0.mk (blk_below (g := gb594) (o := .cells #[.int .i64 0, .int .i64 0, .int .i64 0, .int .i64 0, .bool false, .slice none 0 0] 41 (0, 0)) (kT BK594.out) hb); have n4_ := Aside0.mk (below_step (bH GE593.out GE594.out) hb); clear HO0_0; clear BK593; clear BK594; clear HB; have HO0_0 := n0_; have HO597 := n1_; have BK593 := n2_; have BK594 := n3_; have HB := n4_; clear n0_ n1_ n2_ n3_ n4_; (try clear hb); (try clear hb2); (try clear hk); (try clear hi); (try clear ho0); obtain ⟨Ao22, co22, eo22⟩ := Kd.R_slice HO597.out; subst eo22) | ((with_reducible refine gate_callee (f := 136) rfl ?_); refine goesL_ (some 12) rfl rfl Try.func136 (by kernel_rfl) rfl #[.agg #[.slice Ao22 t595.length co22, .int .i64 t598], .int .i64 a1] rfl mT ?_; (with_reducible refine (mortmainref03_Get.calls k _ _ t595 t598 a1 t599 t600 _ ?side1 ?side2 A4.out).mono ?_); (case side1 => repeat (first | exact (Kd.R_reads' HO597.out).2.2 | (with_reducible refine Kd.C_alloc ?_ _) | (with_reducible refine Kd.C_drewN ?_ _) | (with_reducible refine Kd.C_drew ?_))); (case side2 => exact (Kd.R_reads' HO597.out).2.1); rintro e w23 ⟨rfl, hb⟩; refine ⟨_, rfl, ?_⟩; have n0_ := Aside0.mk (Kd.V_below (by (with_reducible repeat (first | apply Kd.V_alloc | apply Kd.V_drewN | apply Kd.V_drew)); exact HO0_0.out) hb); have n1_ := Aside0.mk (Kd.R_below (rT HO597.out) hb); have n2_ := Aside0.mk (blk_below (g := gb593) (o := .cells #[.slice A0_0 l0_0.length c0_0, .int .i64 a0_1, .int .i64 a0_2] 37 (0, 0)) (kT BK593.out) hb); have n3_ := Aside0.mk (blk_below (g := gb594) (o := .cells #[.int .i64 0, .int .i64 0, .int .i64 0, .int .i64 0, .bool false, .slice none 0 0] 41 (0, 0)) (kT BK594.out) hb); have n4_ := Aside0.mk (below_step (bH GE593.out GE594.out) hb); clear HO0_0; clear HO597; clear BK593; clear BK594; clear HB; have HO0_0 := n0_; have HO597 := n1_; have BK593 := n2_; have BK594 := n3_; have HB := n4_; clear n0_ n1_ n2_ n3_ n4_; (try clear hb); (try clear hb2); (try clear hk); (try clear hi); have hcz24_0 : w23.cell? ⟨gb594, 0, none⟩ = some (.int .i64 0) := (blk_cell BK594.out 0).trans rfl; have hcz24_1 : w23.cell? ⟨gb594, 1, none⟩ = some (.int .i64 0) := (blk_cell BK594.out 1).trans rfl; have hcz24_2 : w23.cell? ⟨gb594, 2, none⟩ = some (.int .i64 0) := (blk_cell BK594.out 2).trans rfl; have hcz24_3 : w23.cell? ⟨gb594, 3, none⟩ = some (.int .i64 0) := (blk_cell BK594.out 3).trans rfl; have hcz24_4 : w23.cell? ⟨gb594, 4, none⟩ = some (.bool false) := (blk_cell BK594.out 4).trans rfl; have hcz24_5 : w23.cell? ⟨gb594, 5, none⟩ = some (.slice none 0 0) := (blk_cell BK594.out 5).trans rfl; have hfz24_0 := blk_frozen BK594.out 0; have hfz24_1 := blk_frozen BK594.out 1; have hfz24_2 := blk_frozen BK594.out 2; have hfz24_3 := blk_frozen BK594.out 3; have hfz24_4 := blk_frozen BK594.out 4; have hfz24_5 := blk_frozen BK594.out 5))
  refine bodyPost_ret (results_ct rfl _ _ gb594 41 #[.int .i64 0, .int .i64 0, .int .i64 0, .int .i64 0, .bool false, .slice none 0 0] (0, 0) _ rfl (by (with_reducible repeat (first | refine blk_drewN ?_ _ | refine blk_drew ?_ | refine blk_alloc ?_ _)); refine blk_put (cs := #[.int .i64 0, .int .i64 0, .int .i64 0, .int .i64 0, .bool false, .slice none 0 0]) ?_ 5 _ rfl; (with_reducible repeat (first | refine blk_drewN ?_ _ | refine blk_drew ?_ | refine blk_alloc ?_ _)); refine blk_put (cs := #[.int .i64 0, .int .i64 0, .int .i64 0, .int .i64 0, .bool false, .slice none 0 0]) ?_ 4 _ rfl; (with_reducible repeat (first | refine blk_drewN ?_ _ | refine blk_drew ?_ | refine blk_alloc ?_ _)); refine blk_put (cs := #[.int .i64 0, .int .i64 0, .int .i64 0, .int .i64 0, .bool false, .slice none 0 0]) ?_ 3 _ rfl; (with_reducible repeat (first | refine blk_drewN ?_ _ | refine blk_drew ?_ | refine blk_alloc ?_ _)); refine blk_put (cs := #[.int .i64 0, .int .i64 0, .int .i64 0, .int .i64 0, .bool false, .slice none 0 0]) ?_ 2 _ rfl; (with_reducible repeat (first | refine blk_drewN ?_ _ | refine blk_drew ?_ | refine blk_alloc ?_ _)); refine blk_put (cs := #[.int .i64 0, .int .i64 0, .int .i64 0, .int .i64 0, .bool false, .slice none 0 0]) ?_ 1 _ rfl; (with_reducible repeat (first | refine blk_drewN ?_ _ | refine blk_drew ?_ | refine blk_alloc ?_ _)); refine blk_put (cs := #[.int .i64 0, .int .i64 0, .int .i64 0, .int .i64 0, .bool false, .slice none 0 0]) ?_ 0 _ rfl; (with_reducible repeat (first | refine blk_drewN ?_ _ | refine blk_drew ?_ | refine blk_alloc ?_ _)); exact BK594.out) Try.underlying41 rfl (by kernel_rfl)) rfl ?_
  exact ⟨_, by first | rfl | (simp [errW_none, errW_some] <;> rfl) | (simp [*, errW_none, errW_some] <;> rfl), Kd.V_mono (Kd.R_V (Kd.R_nil _ _ _ 0 (fun _ => False))) (fun k_ hk => by first | exact hk.elim | exact ⟨(.inr (hk.1)), hk.2⟩ | exact (.inr (hk))), by repeat (first | (with_reducible first | exact HB.out | apply below_alloc | apply pw_below_drewN | apply below_drew1 | refine below_set ?_ GE593.out | refine below_set ?_ GE594.out) | exact HB.out)⟩
def mortmainref05_Names.l0 : Nat → List Int → List Int → Int → Option (List Int)
 | 0, _, _, _ => none
 | k + 1, x0, x3, x4 => if x4 < (x0.length : Int) then (if 0 ≤ x4 then (if (rd x0 x4) = 0 then (mortmainref05_Names.l0 k x0 x3 (wrap64 (x4 + 1))) else (if x3.length < 17592186044416 then (mortmainref05_Names.l0 k x0 (x3 ++ [rd x0 x4]) (wrap64 (x4 + 1))) else (none))) else (none)) else (some x3)
def mortmainref05_Names.f (k : Nat) (l0 : List Int) : Option (List Int) := mortmainref05_Names.l0 k l0 (([] : List Int)) 0
theorem mortmainref05_Names.mono_l : ∀ k, (∀ y0 y1 y2, LeO (mortmainref05_Names.l0 k y0 y1 y2) (mortmainref05_Names.l0 (k + 1) y0 y1 y2))
 | 0 => fun _ _ _ r h => by simp [mortmainref05_Names.l0] at h
 | k + 1 => by
  have ih0 := mortmainref05_Names.mono_l k
  ·intro y0 y1 y2
   unfold mortmainref05_Names.l0
   repeat' first
   | (with_reducible exact ih0 _ _ _)
   | (with_reducible exact LeO.refl _)
   | (with_reducible exact LeO.none _)
   | (with_reducible refine LeO.ite ?_ ?_)
   | (with_reducible refine LeO.bind ?_ (fun _ => ?_))
   | exact ih0 _ _ _
   | exact LeO.none _
   | refine LeO.ite ?_ ?_
   | refine LeO.bind ?_ (fun _ => ?_)
theorem mortmainref05_Names.mono : ∀ a0 k, LeO (mortmainref05_Names.f k a0) (mortmainref05_Names.f (k + 1) a0) := by
 intro a0 k
 have ih0 := mortmainref05_Names.mono_l k
 unfold mortmainref05_Names.f
 repeat' first
   | (with_reducible exact ih0 _ _ _)
   | (with_reducible exact LeO.refl _)
   | (with_reducible exact LeO.none _)
   | (with_reducible refine LeO.ite ?_ ?_)
   | (with_reducible refine LeO.bind ?_ (fun _ => ?_))
   | exact ih0 _ _ _
   | exact LeO.none _
   | refine LeO.ite ?_ ?_
   | refine LeO.bind ?_ (fun _ => ?_)
set_option maxHeartbeats 8000000 in
set_option maxRecDepth 100000 in
theorem mortmainref05_Names.calls (k : Nat) (A0 : Option Addr) (c0 : Nat) (l0 : List Int) (r : List Int) (w : World) (hr0 : Kd.C (Kd.int .i64) w A0 l0.length l0) (hc0 : l0.length ≤ c0) (h : mortmainref05_Names.f k l0 = some r) :
  Calls Try.prog 115 #[.slice A0 l0.length c0] w fun e w' => ∃ v0_ : Value, e = .returned (v0_) ∧ Kd.R (Kd.int .i64) 3 w' w.heap.size (fun _ => True) v0_ r ∧ Below w.heap.size w w' := by
 have HR0 := Aside0.mk hr0
 have HC0 := Aside0.mk hc0
 clear hr0 hc0
 have HB := Aside0.mk (Below.refl w.heap.size w)
 have H : (mortmainref05_Names.l0 k l0 (([] : List Int)) 0) = some r := h
 clear h
 obtain ⟨y602, hy602⟩ : ∃ y_ : List Int, y_ = (([] : List Int)) := ⟨_, rfl⟩
 replace H : (mortmainref05_Names.l0 k l0 y602 0) = some r := by first | (rw [hy602]; with_reducible exact H) | (have H2_ := (Option.bind_some _ _).symm.trans H; rw [hy602]; with_reducible exact H2_) | (have H2_ := (Option.bind_some _ _).symm.trans H; with_reducible exact H2_) | with_reducible exact H | (rw [hy602]; exact H) | exact H
 have Ny602 := Aside0.mk hy602
 clear hy602
 have H' := Aside0.mk H
 clear H
 go_enter Try.func115, Try.ntmps115
 go_wp2_with (first | ((with_reducible refine gate_dst (N := 5) rfl ?_); refine Kd.R_lit (Kd.int .i64) _ 3 ?hg (N := 5) ?hd (xs := ([] : List Int)) (inner := []) (ok := fun _ => True) (okp := fun _ => True) ?hr ?hp (fun _ hk => hk) trivial (Below.refl _ _) (Nat.le_refl _) (by simp) ?_; (case hd => rfl); (case hg => rfl); (case hr => first | (go_simp; done) | (go_simp; rfl)); (case hp => exact (Reps.none _ _)); intro v603 w2 ho3 hb hg_ hnew_; clear hg_ hnew_; (first | rw [← Ny602.out] at ho3 | (simp only [Int.reduceToNat] at ho3; rw [← Ny602.out] at ho3)); have n0_ := Aside0.mk (Kd.R_lower ho3 (below_size bT)); have n1_ := Aside0.mk (below_step bT hb); clear HB; have HO604 := n0_; have HB := n1_; clear n0_ n1_; clear hb ho3))
 go_loopg [3, 4] k (fun kq v3 v4 w' => ∃ (x3_1 : List Int) (x4_1 : Int), v4 = .int .i64 x4_1 ∧ Aside0 (mortmainref05_Names.l0 kq l0 x3_1 x4_1 = some r) ∧ Aside0 (kq ≤ k) ∧ Aside0 (Kd.R (Kd.int .i64) 3 w' w.heap.size (fun _ => True) v3 x3_1) ∧ Aside0 (Below w.heap.size w w'))
 case atStart => exact ⟨(y602), (0), (by first | rfl | (simp; done) | (simp [*]; done)), H', ⟨Nat.le_refl _⟩, ⟨by (with_reducible repeat (first | apply Kd.R_alloc | apply Kd.R_drewN | apply Kd.R_drew)); exact HO604.out⟩, ⟨by repeat (first | (with_reducible first | exact HB.out | apply below_alloc | apply pw_below_drewN | apply below_drew1) | exact HB.out)⟩⟩
 case round =>
  clear H'
  try clear c1
  try clear p2
  obtain ⟨x3_1, x4_1, rfl, HA, HK1, HO_3, HB⟩ := hrel
  cases gk with
  | zero => exact absurd HA.out (by simp [mortmainref05_Names.l0])
  | succ k1 =>
   have H := HA.out
   clear HA
   simp only [mortmainref05_Names.l0] at H
   by_cases c4 : x4_1 < (l0.length : Int)
   ·rw [if_pos c4] at H
    have c4b0 : decide (x4_1 < (l0.length : Int)) = true := decide_eq_true c4
    clear c4
    by_cases c5 : 0 ≤ x4_1
    ·rw [if_pos c5] at H
     have c5b0 : decide (0 ≤ x4_1) = true := decide_eq_true c5
     clear c5
     by_cases c6 : (rd l0 x4_1) = 0
     ·rw [if_pos c6] at H
      have c6b0 : ((rd l0 x4_1) == 0) = true := beq_iff_eq.mpr c6
      have c6b1 : ((rd l0 x4_1) != 0) = false := bne_eq_false_iff_eq.mpr c6
      clear c6
      have H' := Aside0.mk H
      clear H
      have p605 : 0 ≤ (x4_1 : Int) := oT
      have q605 : x4_1 < (l0.length : Int) := oT
      obtain ⟨ad605, e605, hx605_0⟩ := Kd.at_int HR0.out x4_1 p605 q605
      cases e605
      replace hx605_0 := cT HB.out hx605_0
      replace p605 := eq_true p605
      replace q605 := eq_true q605
      go_wp2
      go_roundg k1
      case measure => have := HK1.out; omega
      case rel => exact ⟨(x3_1), (wrap64 (x4_1 + 1)), (by first | rfl | (simp; done) | (simp [*]; done)), H', ⟨by have := HK1.out; omega⟩, ⟨by (with_reducible repeat (first | apply Kd.R_alloc | apply Kd.R_drewN | apply Kd.R_drew)); exact HO_3.out⟩, ⟨by repeat (first | (with_reducible first | exact HB.out | apply below_alloc | apply pw_below_drewN | apply below_drew1) | exact HB.out)⟩⟩
     ·rw [if_neg c6] at H
      have c6b0 : ((rd l0 x4_1) == 0) = false := beq_eq_false_iff_ne.mpr c6
      have c6b1 : ((rd l0 x4_1) != 0) = true := bne_iff_ne.mpr c6
      by_cases c7 : x3_1.length < 17592186044416
      ·rw [if_pos c7] at H
       have LMc7 := Aside0.mk c7
       clear c7
       obtain ⟨y607, hy607⟩ : ∃ y_ : List Int, y_ = (x3_1 ++ [rd l0 x4_1]) := ⟨_, rfl⟩
       replace H : (mortmainref05_Names.l0 k1 l0 y607 (wrap64 (x4_1 + 1))) = some r := by first | (rw [hy607]; with_reducible exact H) | (have H2_ := (Option.bind_some _ _).symm.trans H; rw [hy607]; with_reducible exact H2_) | (have H2_ := (Option.bind_some _ _).symm.trans H; with_reducible exact H2_) | with_reducible exact H | (rw [hy607]; exact H) | exact H
       have Ny607 := Aside0.mk hy607
       clear hy607
       have H' := Aside0.mk H
       clear H
       have p605 : 0 ≤ (x4_1 : Int) := oT
       have q605 : x4_1 < (l0.length : Int) := oT
       obtain ⟨ad605, e605, hx605_0⟩ := Kd.at_int HR0.out x4_1 p605 q605
       cases e605
       replace hx605_0 := cT HB.out hx605_0
       replace p605 := eq_true p605
       replace q605 := eq_true q605
       have p606 : 0 ≤ (x4_1 : Int) := oT
       have q606 : x4_1 < (l0.length : Int) := oT
       obtain ⟨ad606, e606, hx606_0⟩ := Kd.at_int HR0.out x4_1 p606 q606
       obtain rfl : ad605 = ad606 := (by injection e606)
       replace hx606_0 := cT HB.out hx606_0
       replace p606 := eq_true p606
       replace q606 := eq_true q606
       go_wp2_with (first | ((with_reducible refine gate_builtin (b := .append) (xs := #[.tmp 17, .tmp 22]) rfl ?_); at_builtin; refine Kd.R_append (Kd.int .i64) (w0 := w) w.heap.size rfl (.tmp 17) (.tmp 22) 27 3 (.int .i64 0) 8 rfl Try.underlying27 info3 rfl (by decide) (by omega) u3 x3_1 (rd l0 x4_1) [.int .i64 (rd l0 x4_1)] (fun _ => True) (fun _ => False) rfl rfl ?aP (fun _ hk => hk.elim) ?aF ?aO ?aB ?aS ?aL ?_; (case aP => exact rfl); (case aB => exact bT); (case aF => exact (fun _ _ => trivial)); (case aO => exact (rT HO_3.out)); (case aS => exact (below_size bT)); (case aL => have := LMc7.out; omega); intro v608 w8 ho hb hg hat; rw [← Ny607.out] at ho; have n0_ := Aside0.mk (hb); have n1_ := Aside0.mk (ho); clear HB; clear HO_3; have HB := n0_; have HO609 := n1_; clear n0_ n1_; clear ho hb hg hat))
       go_roundg k1
       case measure => have := HK1.out; omega
       case rel => exact ⟨(y607), (wrap64 (x4_1 + 1)), (by first | rfl | (simp; done) | (simp [*]; done)), H', ⟨by have := HK1.out; omega⟩, ⟨by (with_reducible repeat (first | apply Kd.R_alloc | apply Kd.R_drewN | apply Kd.R_drew)); exact HO609.out⟩, ⟨by repeat (first | (with_reducible first | exact HB.out | apply below_alloc | apply pw_below_drewN | apply below_drew1) | exact HB.out)⟩⟩
      ·rw [if_neg c7] at H
       exact absurd H (by simp)
    ·rw [if_neg c5] at H
     exact absurd H (by simp)
   ·rw [if_neg c4] at H
    have c4b0 : decide (x4_1 < (l0.length : Int)) = false := decide_eq_false c4
    clear c4
    obtain rfl := Option.some.inj H
    go_wp2
    go_ret
    exact ⟨_, by first | rfl | (simp [errW_none, errW_some] <;> rfl) | (simp [*, errW_none, errW_some] <;> rfl), by (with_reducible repeat (first | apply Kd.R_alloc | apply Kd.R_drewN | apply Kd.R_drew)); exact HO_3.out, by repeat (first | (with_reducible first | exact HB.out | apply below_alloc | apply pw_below_drewN | apply below_drew1) | exact HB.out)⟩
def mortmainref07_Out.f (k : Nat) (l0_0 : List (S84)) (a0_1 : Int) (a0_2 : Int) (a1 : Int) : Option (List Int) := (mortmainref06_Get.f k l0_0 a0_1 a0_2 a1).bind fun bt611 => (if bt611.2.2.2.2.2.2 = 0 then ((mortmainref05_Names.f k bt611.2.2.2.2.2.1).bind fun t621 => (some t621)) else (some ([] : List Int)))
theorem mortmainref07_Out.mono : ∀ a0 a1 a2 a3 k, LeO (mortmainref07_Out.f k a0 a1 a2 a3) (mortmainref07_Out.f (k + 1) a0 a1 a2 a3) := by
 intro a0 a1 a2 a3 k
 unfold mortmainref07_Out.f
 repeat' first
   | (with_reducible exact mortmainref05_Names.mono _ _)
   | (with_reducible exact mortmainref06_Get.mono _ _ _ _ _)
   | (with_reducible exact LeO.refl _)
   | (with_reducible exact LeO.none _)
   | (with_reducible refine LeO.ite ?_ ?_)
   | (with_reducible refine LeO.bind ?_ (fun _ => ?_))
   | exact mortmainref05_Names.mono _ _
   | exact mortmainref06_Get.mono _ _ _ _ _
   | exact LeO.none _
   | refine LeO.ite ?_ ?_
   | refine LeO.bind ?_ (fun _ => ?_)
set_option maxHeartbeats 8000000 in
set_option maxRecDepth 100000 in
theorem mortmainref07_Out.calls (k : Nat) (A0_0 : Option Addr) (c0_0 : Nat) (l0_0 : List (S84)) (a0_1 : Int) (a0_2 : Int) (a1 : Int) (r : List Int) (w : World) (hr0_0 : Kd.C k84 w A0_0 l0_0.length l0_0) (hc0_0 : l0_0.length ≤ c0_0) (h : mortmainref07_Out.f k l0_0 a0_1 a0_2 a1 = some r) :
  Calls Try.prog 83 #[.agg #[.slice A0_0 l0_0.length c0_0, .int .i64 a0_1, .int .i64 a0_2], .int .i64 a1] w fun e w' => ∃ v0_ : Value, e = .returned (v0_) ∧ Kd.R (Kd.int .i64) 3 w' w.heap.size (fun _ => True) v0_ r ∧ Below w.heap.size w w' := by
 have hu37 := Try.underlying37
 have hu41 := Try.underlying41
 have HR0_0 := Aside0.mk hr0_0
 have HC0_0 := Aside0.mk hc0_0
 clear hr0_0 hc0_0
 have HB := Aside0.mk (Below.refl w.heap.size w)
 have H : ((mortmainref06_Get.f k l0_0 a0_1 a0_2 a1).bind fun bt611 => (if bt611.2.2.2.2.2.2 = 0 then ((mortmainref05_Names.f k bt611.2.2.2.2.2.1).bind fun t621 => (some t621)) else (some ([] : List Int)))) = some r := h
 clear h
 replace H := Option.bind_eq_some_iff.mp H
 obtain ⟨⟨t611, t612, t613, t614, t615, t616, t619⟩, A30, H⟩ := H
 replace H : (if t619 = 0 then ((mortmainref05_Names.f k t616).bind fun t621 => (some t621)) else (some ([] : List Int))) = some r := H
 have A3 := Aside0.mk A30
 clear A30
 by_cases c4 : t619 = 0
 ·rw [if_pos c4] at H
  have c4b0 : (t619 == 0) = true := beq_iff_eq.mpr c4
  have c4b1 : (t619 != 0) = false := bne_eq_false_iff_eq.mpr c4
  clear c4
  replace H := Option.bind_eq_some_iff.mp H
  obtain ⟨t621, A50, H⟩ := H
  replace H : (some t621) = some r := H
  have A5 := Aside0.mk A50
  clear A50
  obtain rfl := Option.some.inj H
  go_enter Try.func83, Try.ntmps83
  go_wp2_with (first | ((with_reducible refine gate_dst (N := 2) rfl ?_); refine box_event ?hg (N := 2) ?hd (cs := #[.slice A0_0 l0_0.length c0_0, .int .i64 a0_1, .int .i64 a0_2]) (t := 37) ?hr ?_; (case hd => rfl); (case hg => rfl); (case hr => first | (go_simp; done) | (go_simp; rfl)); intro gb610 hg w6 hbox hb; have n0_ := Aside0.mk (below_step bT hb); have n1_ := Aside0.mk (hbox); have n2_ := Aside0.mk (gT hg bT); have n3_ := Aside0.mk (gT hg bT); clear HB; have HB := n0_; have BK610 := n1_; have GW610 := n2_; have GE610 := n3_; clear n0_ n1_ n2_ n3_; clear hb hbox hg; have hcz7_0 : w6.cell? ⟨gb610, 0, none⟩ = some (.slice A0_0 l0_0.length c0_0) := (blk_cell BK610.out 0).trans rfl; have hcz7_1 : w6.cell? ⟨gb610, 1, none⟩ = some (.int .i64 a0_1) := (blk_cell BK610.out 1).trans rfl; have hcz7_2 : w6.cell? ⟨gb610, 2, none⟩ = some (.int .i64 a0_2) := (blk_cell BK610.out 2).trans rfl; have hfz7_0 := blk_frozen BK610.out 0; have hfz7_1 := blk_frozen BK610.out 1; have hfz7_2 := blk_frozen BK610.out 2) | ((with_reducible refine gate_callee (f := 114) rfl ?_); refine goesL_ (some 10) rfl rfl Try.func114 (by kernel_rfl) rfl #[.agg #[.slice A0_0 l0_0.length c0_0, .int .i64 a0_1, .int .i64 a0_2], .int .i64 a1] rfl mT ?_; (with_reducible refine (mortmainref06_Get.calls k (fun k_ => k_ < w.heap.size) _ _ l0_0 a0_1 a0_2 a1 t611 t612 t613 t614 t615 t616 t619 _ ?side1 A3.out).mono ?_); (case side1 => exact Kd.V_mk HC0_0.out (Kd.F_below (Kd.C_F k84_heap HR0_0.out) (bG GE610.out))); rintro e w8 ⟨v617, rfl, ho0, hb⟩; refine ⟨_, rfl, ?_⟩; have n0_ := Aside0.mk (Kd.V_lower (Kd.V_mono (ok' := fun k_ => k_ ≠ gb610) ho0 (fun k_ hk_ => Or.elim hk_ (fun hs_ => fun e_ => Nat.not_le.2 hs_ (by rw [e_]; exact GW610.out)) (fun hn_ => (Kd.freshB (g := gb610) (o := .cells #[.slice A0_0 l0_0.length c0_0, .int .i64 a0_1, .int .i64 a0_2] 37 (0, 0)) (kT BK610.out) k_ hn_)))) (below_size (bG GE610.out))); have n1_ := Aside0.mk (blk_below (g := gb610) (o := .cells #[.slice A0_0 l0_0.length c0_0, .int .i64 a0_1, .int .i64 a0_2] 37 (0, 0)) (kT BK610.out) hb); have n2_ := Aside0.mk (below_step (bG GE610.out) hb); clear BK610; clear HB; have HO618 := n0_; have BK610 := n1_; have HB := n2_; clear n0_ n1_ n2_; (try clear hb); (try clear hb2); (try clear hk); (try clear hi); (try clear ho0)) | ((with_reducible refine gate_dst (N := 5) rfl ?_); refine box_event ?hg (N := 5) ?hd (cs := #[.int .i64 0, .int .i64 0, .int .i64 0, .int .i64 0, .bool false, .slice none 0 0]) (t := 41) ?hr ?_; (case hd => rfl); (case hg => rfl); (case hr => first | (go_simp; done) | (go_simp; rfl)); intro gb620 hg w9 hbox hb; have n0_ := Aside0.mk (Kd.V_below (Kd.V_elderB (by (with_reducible repeat (first | apply Kd.V_alloc | apply Kd.V_drewN | apply Kd.V_drew)); exact HO618.out) gb620 (Nat.le_of_eq hg.symm)) hb); have n1_ := Aside0.mk (blk_below (g := gb610) (o := .cells #[.slice A0_0 l0_0.length c0_0, .int .i64 a0_1, .int .i64 a0_2] 37 (0, 0)) (kT BK610.out) hb); have n2_ := Aside0.mk (below_step (bG GE610.out) hb); have n3_ := Aside0.mk (hbox); have n4_ := Aside0.mk (gT hg (bG GE610.out)); have n5_ := Aside0.mk (gT hg (bG GE610.out)); have n6_ := Aside0.mk ((by rw [hg]; exact Nat.ne_of_lt (blk_lt (g := gb610) (o := .cells #[.slice A0_0 l0_0.length c0_0, .int .i64 a0_1, .int .i64 a0_2] 37 (0, 0)) (kT BK610.out)) : gb610 ≠ gb620)); have n7_ := Aside0.mk ((by rw [hg]; exact Nat.ne_of_gt (blk_lt (g := gb610) (o := .cells #[.slice A0_0 l0_0.length c0_0, .int .i64 a0_1, .int .i64 a0_2] 37 (0, 0)) (kT BK610.out)) : gb620 ≠ gb610)); clear HO618; clear BK610; clear HB; have HO618 := n0_; have BK610 := n1_; have HB := n2_; have BK620 := n3_; have GW620 := n4_; have GE620 := n5_; have NB610_620 := n6_; have NB620_610 := n7_; clear n0_ n1_ n2_ n3_ n4_ n5_ n6_ n7_; clear hb hbox hg; have hnb10 := NB620_610.out; have hnc10 := NB610_620.out; have hcz11_0 : w9.cell? ⟨gb620, 0, none⟩ = some (.int .i64 0) := (blk_cell BK620.out 0).trans rfl; have hcz11_1 : w9.cell? ⟨gb620, 1, none⟩ = some (.int .i64 0) := (blk_cell BK620.out 1).trans rfl; have hcz11_2 : w9.cell? ⟨gb620, 2, none⟩ = some (.int .i64 0) := (blk_cell BK620.out 2).trans rfl; have hcz11_3 : w9.cell? ⟨gb620, 3, none⟩ = some (.int .i64 0) := (blk_cell BK620.out 3).trans rfl; have hcz11_4 : w9.cell? ⟨gb620, 4, none⟩ = some (.bool false) := (blk_cell BK620.out 4).trans rfl; have hcz11_5 : w9.cell? ⟨gb620, 5, none⟩ = some (.slice none 0 0) := (blk_cell BK620.out 5).trans rfl; have hfz11_0 := blk_frozen BK620.out 0; have hfz11_1 := blk_frozen BK620.out 1; have hfz11_2 := blk_frozen BK620.out 2; have hfz11_3 := blk_frozen BK620.out 3; have hfz11_4 := blk_frozen BK620.out 4; have hfz11_5 := blk_frozen BK620.out 5; obtain ⟨Ao12, co12, eo12⟩ := Kd.V_slice HO618.out; subst eo12) | ((with_reducible refine gate_callee (f := 115) rfl ?_); refine goesL_ (some 17) rfl rfl Try.func115 (by kernel_rfl) rfl #[.slice Ao12 t616.length co12] rfl mT ?_; (with_reducible refine (mortmainref05_Names.calls k _ _ t616 t621 _ ?side1 ?side2 A5.out).mono ?_); (case side1 => refine (Kd.V_reads' (e := 3) (base := w.heap.size) (ok := fun k_ => (k_ ≠ gb610 ∧ k_ ≠ gb620)) (n := t616.length) (c := co12) ?_).2.2; exact (by (with_reducible repeat (first | apply Kd.V_alloc | apply Kd.V_drewN | apply Kd.V_drew)); exact (Kd.V_mono (Kd.V_far (p := ⟨gb620, 5, none⟩) (Kd.V_far (p := ⟨gb620, 4, none⟩) (Kd.V_far (p := ⟨gb620, 3, none⟩) (Kd.V_far (p := ⟨gb620, 2, none⟩) (Kd.V_far (p := ⟨gb620, 1, none⟩) (Kd.V_far (p := ⟨gb620, 0, none⟩) (Kd.V_mono HO618.out (fun k_ hk => (⟨hk, hk.2⟩ : _ ∧ k_ ≠ gb620))) (fun _ hk => hk.2) (.int .i64 t611)) (fun _ hk => hk.2) (.int .i64 t612)) (fun _ hk => hk.2) (.int .i64 t613)) (fun _ hk => hk.2) (.int .i64 t614)) (fun _ hk => hk.2) (.bool t615)) (fun _ hk => hk.2) (.slice Ao12 t616.length co12)) (fun _ h_ => h_.1)))); (case side2 => exact (Kd.V_reads' HO618.out).2.1); rintro e w13 ⟨v622, rfl, ho0, hb⟩; refine ⟨_, rfl, ?_⟩; have n0_ := Aside0.mk (Kd.V_elder' (by (with_reducible repeat (first | apply Kd.V_alloc | apply Kd.V_drewN | apply Kd.V_drew)); exact (Kd.V_mono (Kd.V_far (p := ⟨gb620, 5, none⟩) (Kd.V_far (p := ⟨gb620, 4, none⟩) (Kd.V_far (p := ⟨gb620, 3, none⟩) (Kd.V_far (p := ⟨gb620, 2, none⟩) (Kd.V_far (p := ⟨gb620, 1, none⟩) (Kd.V_far (p := ⟨gb620, 0, none⟩) (Kd.V_mono HO618.out (fun k_ hk => (⟨hk, hk.2⟩ : _ ∧ k_ ≠ gb620))) (fun _ hk => hk.2) (.int .i64 t611)) (fun _ hk => hk.2) (.int .i64 t612)) (fun _ hk => hk.2) (.int .i64 t613)) (fun _ hk => hk.2) (.int .i64 t614)) (fun _ hk => hk.2) (.bool t615)) (fun _ hk => hk.2) (.slice Ao12 t616.length co12)) (fun _ h_ => h_.1))) (Kd.R_base ho0) hb); have n1_ := Aside0.mk (Kd.R_lower ho0 (below_size (bH GE610.out GE620.out))); have n2_ := Aside0.mk (blk_below (g := gb610) (o := .cells #[.slice A0_0 l0_0.length c0_0, .int .i64 a0_1, .int .i64 a0_2] 37 (0, 0)) (by (with_reducible repeat (first | refine blk_drewN ?_ _ | refine blk_drew ?_ | refine blk_alloc ?_ _)); refine blk_far ?_ NB610_620.out _; (with_reducible repeat (first | refine blk_drewN ?_ _ | refine blk_drew ?_ | refine blk_alloc ?_ _)); refine blk_far ?_ NB610_620.out _; (with_reducible repeat (first | refine blk_drewN ?_ _ | refine blk_drew ?_ | refine blk_alloc ?_ _)); refine blk_far ?_ NB610_620.out _; (with_reducible repeat (first | refine blk_drewN ?_ _ | refine blk_drew ?_ | refine blk_alloc ?_ _)); refine blk_far ?_ NB610_620.out _; (with_reducible repeat (first | refine blk_drewN ?_ _ | refine blk_drew ?_ | refine blk_alloc ?_ _)); refine blk_far ?_ NB610_620.out _; (with_reducible repeat (first | refine blk_drewN ?_ _ | refine blk_drew ?_ | refine blk_alloc ?_ _)); refine blk_far ?_ NB610_620.out _; (with_reducible repeat (first | refine blk_drewN ?_ _ | refine blk_drew ?_ | refine blk_alloc ?_ _)); exact BK610.out) hb); have n3_ := Aside0.mk (blk_below (g := gb620) (o := .cells #[.int .i64 t611, .int .i64 t612, .int .i64 t613, .int .i64 t614, .bool t615, .slice Ao12 t616.length co12] 41 (0, 0)) (by (with_reducible repeat (first | refine blk_drewN ?_ _ | refine blk_drew ?_ | refine blk_alloc ?_ _)); refine blk_put (cs := #[.int .i64 t611, .int .i64 t612, .int .i64 t613, .int .i64 t614, .bool t615, .slice none 0 0]) ?_ 5 _ rfl; (with_reducible repeat (first | refine blk_drewN ?_ _ | refine blk_drew ?_ | refine blk_alloc ?_ _)); refine blk_put (cs := #[.int .i64 t611, .int .i64 t612, .int .i64 t613, .int .i64 t614, .bool false, .slice none 0 0]) ?_ 4 _ rfl; (with_reducible repeat (first | refine blk_drewN ?_ _ | refine blk_drew ?_ | refine blk_alloc ?_ _)); refine blk_put (cs := #[.int .i64 t611, .int .i64 t612, .int .i64 t613, .int .i64 0, .bool false, .slice none 0 0]) ?_ 3 _ rfl; (with_reducible repeat (first | refine blk_drewN ?_ _ | refine blk_drew ?_ | refine blk_alloc ?_ _)); refine blk_put (cs := #[.int .i64 t611, .int .i64 t612, .int .i64 0, .int .i64 0, .bool false, .slice none 0 0]) ?_ 2 _ rfl; (with_reducible repeat (first | refine blk_drewN ?_ _ | refine blk_drew ?_ | refine blk_alloc ?_ _)); refine blk_put (cs := #[.int .i64 t611, .int .i64 0, .int .i64 0, .int .i64 0, .bool false, .slice none 0 0]) ?_ 1 _ rfl; (with_reducible repeat (first | refine blk_drewN ?_ _ | refine blk_drew ?_ | refine blk_alloc ?_ _)); refine blk_put (cs := #[.int .i64 0, .int .i64 0, .int .i64 0, .int .i64 0, .bool false, .slice none 0 0]) ?_ 0 _ rfl; (with_reducible repeat (first | refine blk_drewN ?_ _ | refine blk_drew ?_ | refine blk_alloc ?_ _)); exact BK620.out) hb); have n4_ := Aside0.mk (below_step (bH GE610.out GE620.out) hb); clear HO618; clear BK610; clear BK620; clear HB; have HO618 := n0_; have HO623 := n1_; have BK610 := n2_; have BK620 := n3_; have HB := n4_; clear n0_ n1_ n2_ n3_ n4_; (try clear hb); (try clear hb2); (try clear hk); (try clear hi); (try clear ho0)))
  go_ret
  exact ⟨_, by first | rfl | (simp [errW_none, errW_some] <;> rfl) | (simp [*, errW_none, errW_some] <;> rfl), by (with_reducible repeat (first | apply Kd.R_alloc | apply Kd.R_drewN | apply Kd.R_drew)); exact HO623.out, by repeat (first | (with_reducible first | exact HB.out | apply below_alloc | apply pw_below_drewN | apply below_drew1 | refine below_set ?_ GE610.out | refine below_set ?_ GE620.out) | exact HB.out)⟩
 ·rw [if_neg c4] at H
  have c4b0 : (t619 == 0) = false := beq_eq_false_iff_ne.mpr c4
  have c4b1 : (t619 != 0) = true := bne_iff_ne.mpr c4
  obtain rfl := Option.some.inj H
  go_enter Try.func83, Try.ntmps83
  go_wp2_with (first | ((with_reducible refine gate_dst (N := 2) rfl ?_); refine box_event ?hg (N := 2) ?hd (cs := #[.slice A0_0 l0_0.length c0_0, .int .i64 a0_1, .int .i64 a0_2]) (t := 37) ?hr ?_; (case hd => rfl); (case hg => rfl); (case hr => first | (go_simp; done) | (go_simp; rfl)); intro gb610 hg w14 hbox hb; have n0_ := Aside0.mk (below_step bT hb); have n1_ := Aside0.mk (hbox); have n2_ := Aside0.mk (gT hg bT); have n3_ := Aside0.mk (gT hg bT); clear HB; have HB := n0_; have BK610 := n1_; have GW610 := n2_; have GE610 := n3_; clear n0_ n1_ n2_ n3_; clear hb hbox hg; have hcz15_0 : w14.cell? ⟨gb610, 0, none⟩ = some (.slice A0_0 l0_0.length c0_0) := (blk_cell BK610.out 0).trans rfl; have hcz15_1 : w14.cell? ⟨gb610, 1, none⟩ = some (.int .i64 a0_1) := (blk_cell BK610.out 1).trans rfl; have hcz15_2 : w14.cell? ⟨gb610, 2, none⟩ = some (.int .i64 a0_2) := (blk_cell BK610.out 2).trans rfl; have hfz15_0 := blk_frozen BK610.out 0; have hfz15_1 := blk_frozen BK610.out 1; have hfz15_2 := blk_frozen BK610.out 2) | ((with_reducible refine gate_callee (f := 114) rfl ?_); refine goesL_ (some 10) rfl rfl Try.func114 (by kernel_rfl) rfl #[.agg #[.slice A0_0 l0_0.length c0_0, .int .i64 a0_1, .int .i64 a0_2], .int .i64 a1] rfl mT ?_; (with_reducible refine (mortmainref06_Get.calls k (fun k_ => k_ < w.heap.size) _ _ l0_0 a0_1 a0_2 a1 t611 t612 t613 t614 t615 t616 t619 _ ?side1 A3.out).mono ?_); (case side1 => exact Kd.V_mk HC0_0.out (Kd.F_below (Kd.C_F k84_heap HR0_0.out) (bG GE610.out))); rintro e w16 ⟨v617, rfl, ho0, hb⟩; refine ⟨_, rfl, ?_⟩; have n0_ := Aside0.mk (Kd.V_lower (Kd.V_mono (ok' := fun k_ => k_ ≠ gb610) ho0 (fun k_ hk_ => Or.elim hk_ (fun hs_ => fun e_ => Nat.not_le.2 hs_ (by rw [e_]; exact GW610.out)) (fun hn_ => (Kd.freshB (g := gb610) (o := .cells #[.slice A0_0 l0_0.length c0_0, .int .i64 a0_1, .int .i64 a0_2] 37 (0, 0)) (kT BK610.out) k_ hn_)))) (below_size (bG GE610.out))); have n1_ := Aside0.mk (blk_below (g := gb610) (o := .cells #[.slice A0_0 l0_0.length c0_0, .int .i64 a0_1, .int .i64 a0_2] 37 (0, 0)) (kT BK610.out) hb); have n2_ := Aside0.mk (below_step (bG GE610.out) hb); clear BK610; clear HB; have HO618 := n0_; have BK610 := n1_; have HB := n2_; clear n0_ n1_ n2_; (try clear hb); (try clear hb2); (try clear hk); (try clear hi); (try clear ho0)) | ((with_reducible refine gate_dst (N := 5) rfl ?_); refine box_event ?hg (N := 5) ?hd (cs := #[.int .i64 0, .int .i64 0, .int .i64 0, .int .i64 0, .bool false, .slice none 0 0]) (t := 41) ?hr ?_; (case hd => rfl); (case hg => rfl); (case hr => first | (go_simp; done) | (go_simp; rfl)); intro gb620 hg w17 hbox hb; have n0_ := Aside0.mk (Kd.V_below (Kd.V_elderB (by (with_reducible repeat (first | apply Kd.V_alloc | apply Kd.V_drewN | apply Kd.V_drew)); exact HO618.out) gb620 (Nat.le_of_eq hg.symm)) hb); have n1_ := Aside0.mk (blk_below (g := gb610) (o := .cells #[.slice A0_0 l0_0.length c0_0, .int .i64 a0_1, .int .i64 a0_2] 37 (0, 0)) (kT BK610.out) hb); have n2_ := Aside0.mk (below_step (bG GE610.out) hb); have n3_ := Aside0.mk (hbox); have n4_ := Aside0.mk (gT hg (bG GE610.out)); have n5_ := Aside0.mk (gT hg (bG GE610.out)); have n6_ := Aside0.mk ((by rw [hg]; exact Nat.ne_of_lt (blk_lt (g := gb610) (o := .cells #[.slice A0_0 l0_0.length c0_0, .int .i64 a0_1, .int .i64 a0_2] 37 (0, 0)) (kT BK610.out)) : gb610 ≠ gb620)); have n7_ := Aside0.mk ((by rw [hg]; exact Nat.ne_of_gt (blk_lt (g := gb610) (o := .cells #[.slice A0_0 l0_0.length c0_0, .int .i64 a0_1, .int .i64 a0_2] 37 (0, 0)) (kT BK610.out)) : gb620 ≠ gb610)); clear HO618; clear BK610; clear HB; have HO618 := n0_; have BK610 := n1_; have HB := n2_; have BK620 := n3_; have GW620 := n4_; have GE620 := n5_; have NB610_620 := n6_; have NB620_610 := n7_; clear n0_ n1_ n2_ n3_ n4_ n5_ n6_ n7_; clear hb hbox hg; have hnb18 := NB620_610.out; have hnc18 := NB610_620.out; have hcz19_0 : w17.cell? ⟨gb620, 0, none⟩ = some (.int .i64 0) := (blk_cell BK620.out 0).trans rfl; have hcz19_1 : w17.cell? ⟨gb620, 1, none⟩ = some (.int .i64 0) := (blk_cell BK620.out 1).trans rfl; have hcz19_2 : w17.cell? ⟨gb620, 2, none⟩ = some (.int .i64 0) := (blk_cell BK620.out 2).trans rfl; have hcz19_3 : w17.cell? ⟨gb620, 3, none⟩ = some (.int .i64 0) := (blk_cell BK620.out 3).trans rfl; have hcz19_4 : w17.cell? ⟨gb620, 4, none⟩ = some (.bool false) := (blk_cell BK620.out 4).trans rfl; have hcz19_5 : w17.cell? ⟨gb620, 5, none⟩ = some (.slice none 0 0) := (blk_cell BK620.out 5).trans rfl; have hfz19_0 := blk_frozen BK620.out 0; have hfz19_1 := blk_frozen BK620.out 1; have hfz19_2 := blk_frozen BK620.out 2; have hfz19_3 := blk_frozen BK620.out 3; have hfz19_4 := blk_frozen BK620.out 4; have hfz19_5 := blk_frozen BK620.out 5; obtain ⟨Ao20, co20, eo20⟩ := Kd.V_slice HO618.out; subst eo20))
  go_ret
  exact ⟨_, by first | rfl | (simp [errW_none, errW_some] <;> rfl) | (simp [*, errW_none, errW_some] <;> rfl), by first | exact Kd.R_nil _ _ _ _ _ | exact Kd.N_nil _ _ _ _ _ | exact Kd.V_nil _ _ _ _ _ | exact Kd.Q_nil _ _ _ _ _ | exact Kd.S_nil _ _ _ _ _, by repeat (first | (with_reducible first | exact HB.out | apply below_alloc | apply pw_below_drewN | apply below_drew1 | refine below_set ?_ GE610.out | refine below_set ?_ GE620.out) | exact HB.out)⟩
end Go.Proofs.Ytkmjboeabmmecaa.MAll
