/- The functions that the law reaches in plain Lean, and that the calls come to what these say. No condition. (By wip/myprint.py, this session's program over the kit's print.) -/
import Derived.Test.YtkmjboeabmmecaaMAllx22
namespace Go.Proofs.Ytkmjboeabmmecaa.MAll
open Go.RowKit Go.Proofs.YtkmjboeabmmecaaW.PrintWords Go.Proofs.YtkmjboeabmmecaaW.PrintLast Go.Proofs.YtkmjboeabmmecaaW.PrintMore
attribute [local go_sem] max2_int min2_int max_two min_two max_three min_three max_four min_four
set_option linter.unusedVariables false
set_option linter.unusedSimpArgs false
def reach_Is.f (k : Nat) (l0_0 : List (S82)) (a0_1 : Int) (a0_2 : Int) (a1 : Int) (a2 : Int) : Option (Bool) := (reach_From.f k l0_0 a0_1 a0_2 (([a1] : List Int))).bind fun t670 => ((slices_Contains_int_int.f k t670 a2).bind fun t673 => (some t673))
theorem reach_Is.mono : ∀ a0 a1 a2 a3 a4 k, LeO (reach_Is.f k a0 a1 a2 a3 a4) (reach_Is.f (k + 1) a0 a1 a2 a3 a4) := by
 intro a0 a1 a2 a3 a4 k
 unfold reach_Is.f
 repeat' first
   | (with_reducible exact reach_From.mono _ _ _ _ _)
   | (with_reducible exact slices_Contains_int_int.mono _ _ _)
   | (with_reducible exact LeO.refl _)
   | (with_reducible exact LeO.none _)
   | (with_reducible refine LeO.ite ?_ ?_)
   | (with_reducible refine LeO.bind ?_ (fun _ => ?_))
   | exact reach_From.mono _ _ _ _ _
   | exact slices_Contains_int_int.mono _ _ _
   | exact LeO.none _
   | refine LeO.ite ?_ ?_
   | refine LeO.bind ?_ (fun _ => ?_)
set_option maxHeartbeats 8000000 in
set_option maxRecDepth 100000 in
theorem reach_Is.calls (k : Nat) (A0_0 : Option Addr) (c0_0 : Nat) (l0_0 : List (S82)) (a0_1 : Int) (a0_2 : Int) (a1 : Int) (a2 : Int) (r : Bool) (w : World) (hr0_0 : Kd.C k82 w A0_0 l0_0.length l0_0) (hc0_0 : l0_0.length ≤ c0_0) (h : reach_Is.f k l0_0 a0_1 a0_2 a1 a2 = some r) :
  Calls Try.prog 48 #[.agg #[.slice A0_0 l0_0.length c0_0, .int .i64 a0_1, .int .i64 a0_2], .int .i64 a1, .int .i64 a2] w fun e w' => e = .returned (.bool r) ∧ Below w.heap.size w w' := by
 have hu26 := Try.underlying26
 have HR0_0 := Aside0.mk hr0_0
 have HC0_0 := Aside0.mk hc0_0
 clear hr0_0 hc0_0
 have HB := Aside0.mk (Below.refl w.heap.size w)
 have H : ((reach_From.f k l0_0 a0_1 a0_2 (([a1] : List Int))).bind fun t670 => ((slices_Contains_int_int.f k t670 a2).bind fun t673 => (some t673))) = some r := h
 clear h
 obtain ⟨y667, hy667⟩ : ∃ y_ : List Int, y_ = (([a1] : List Int)) := ⟨_, rfl⟩
 replace H : ((reach_From.f k l0_0 a0_1 a0_2 y667).bind fun t670 => ((slices_Contains_int_int.f k t670 a2).bind fun t673 => (some t673))) = some r := by first | (rw [hy667]; with_reducible exact H) | (have H2_ := (Option.bind_some _ _).symm.trans H; rw [hy667]; with_reducible exact H2_) | (have H2_ := (Option.bind_some _ _).symm.trans H; with_reducible exact H2_) | with_reducible exact H | (rw [hy667]; exact H) | exact H
 have Ny667 := Aside0.mk hy667
 clear hy667
 replace H := Option.bind_eq_some_iff.mp H
 obtain ⟨t670, A40, H⟩ := H
 replace H : ((slices_Contains_int_int.f k t670 a2).bind fun t673 => (some t673)) = some r := H
 have A4 := Aside0.mk A40
 clear A40
 replace H := Option.bind_eq_some_iff.mp H
 obtain ⟨t673, A50, H⟩ := H
 replace H : (some t673) = some r := H
 have A5 := Aside0.mk A50
 clear A50
 obtain rfl := Option.some.inj H
 go_enter Try.func48, Try.ntmps48
 go_wp2_with (first | ((with_reducible refine gate_dst (N := 3) rfl ?_); refine box_event ?hg (N := 3) ?hd (cs := #[.slice A0_0 l0_0.length c0_0, .int .i64 a0_1, .int .i64 a0_2]) (t := 26) ?hr ?_; (case hd => rfl); (case hg => rfl); (case hr => first | (go_simp; done) | (go_simp; rfl)); intro gb666 hg w6 hbox hb; have n0_ := Aside0.mk (below_step bT hb); have n1_ := Aside0.mk (hbox); have n2_ := Aside0.mk (gT hg bT); have n3_ := Aside0.mk (gT hg bT); clear HB; have HB := n0_; have BK666 := n1_; have GW666 := n2_; have GE666 := n3_; clear n0_ n1_ n2_ n3_; clear hb hbox hg; have hcz7_0 : w6.cell? ⟨gb666, 0, none⟩ = some (.slice A0_0 l0_0.length c0_0) := (blk_cell BK666.out 0).trans rfl; have hcz7_1 : w6.cell? ⟨gb666, 1, none⟩ = some (.int .i64 a0_1) := (blk_cell BK666.out 1).trans rfl; have hcz7_2 : w6.cell? ⟨gb666, 2, none⟩ = some (.int .i64 a0_2) := (blk_cell BK666.out 2).trans rfl; have hfz7_0 := blk_frozen BK666.out 0; have hfz7_1 := blk_frozen BK666.out 1; have hfz7_2 := blk_frozen BK666.out 2) | ((with_reducible refine gate_dst (N := 9) rfl ?_); refine Kd.R_lit (Kd.int .i64) _ 3 ?hg (N := 9) ?hd (xs := ([a1] : List Int)) (inner := [.int .i64 a1]) (ok := fun _ => True) (okp := fun _ => True) ?hr ?hp (fun _ hk => hk) trivial (Below.refl _ _) (Nat.le_refl _) (by simp) ?_; (case hd => rfl); (case hg => rfl); (case hr => first | (go_simp; done) | (go_simp; rfl)); (case hp => exact (Reps.one (show Kd.M (Kd.int .i64) _ _ _ a1 [.int .i64 a1] from rfl) (Reps.none _ _))); intro v668 w8 ho9 hb hg_ hnew_; clear hg_ hnew_; (first | rw [← Ny667.out] at ho9 | (simp only [Int.reduceToNat] at ho9; rw [← Ny667.out] at ho9)); have n0_ := Aside0.mk (Kd.R_lower ho9 (below_size (bG GE666.out))); have n1_ := Aside0.mk (blk_below (g := gb666) (o := .cells #[.slice A0_0 l0_0.length c0_0, .int .i64 a0_1, .int .i64 a0_2] 26 (0, 0)) (kT BK666.out) hb); have n2_ := Aside0.mk (below_step (bG GE666.out) hb); clear BK666; clear HB; have HO669 := n0_; have BK666 := n1_; have HB := n2_; clear n0_ n1_ n2_; clear hb ho9; obtain ⟨Ao10, co10, eo10⟩ := Kd.R_slice HO669.out; subst eo10) | ((with_reducible refine gate_callee (f := 44) rfl ?_); refine goesL_ (some 10) rfl rfl Try.func44 (by kernel_rfl) rfl #[.agg #[.slice A0_0 l0_0.length c0_0, .int .i64 a0_1, .int .i64 a0_2], .slice Ao10 y667.length co10] rfl mT ?_; (with_reducible refine (reach_From.calls k _ _ l0_0 a0_1 a0_2 _ _ y667 t670 _ ?side1 ?side2 ?side3 ?side4 A4.out).mono ?_); (case side1 => repeat (first | exact (Kd.C_below HR0_0.out HB.out) | (with_reducible refine Kd.C_alloc ?_ _) | (with_reducible refine Kd.C_drewN ?_ _) | (with_reducible refine Kd.C_drew ?_))); (case side2 => exact HC0_0.out); (case side3 => repeat (first | exact (Kd.R_reads' HO669.out).2.2 | (with_reducible refine Kd.C_alloc ?_ _) | (with_reducible refine Kd.C_drewN ?_ _) | (with_reducible refine Kd.C_drew ?_))); (case side4 => exact (Kd.R_reads' HO669.out).2.1); rintro e w11 ⟨v671, rfl, ho0, hb⟩; refine ⟨_, rfl, ?_⟩; have n0_ := Aside0.mk (Kd.R_elder' (rT HO669.out) (Kd.R_base ho0) hb); have n1_ := Aside0.mk (Kd.R_lower (Kd.R_new' ho0 (Kd.R_lt (rT HO669.out))) (below_size (bG GE666.out))); have n2_ := Aside0.mk (blk_below (g := gb666) (o := .cells #[.slice A0_0 l0_0.length c0_0, .int .i64 a0_1, .int .i64 a0_2] 26 (0, 0)) (kT BK666.out) hb); have n3_ := Aside0.mk (below_step (bG GE666.out) hb); clear HO669; clear BK666; clear HB; have HO669 := n0_; have HO672 := n1_; have BK666 := n2_; have HB := n3_; clear n0_ n1_ n2_ n3_; (try clear hb); (try clear hb2); (try clear hk); (try clear hi); (try clear ho0); obtain ⟨Ao12, co12, eo12⟩ := Kd.R_slice HO672.out; subst eo12) | ((with_reducible refine gate_callee (f := 84) rfl ?_); refine goesL_ (some 12) rfl rfl Try.func84 (by kernel_rfl) rfl #[.slice Ao12 t670.length co12, .int .i64 a2] rfl mT ?_; (with_reducible refine (slices_Contains_int_int.calls k _ _ t670 a2 t673 _ ?side1 ?side2 A5.out).mono ?_); (case side1 => repeat (first | exact (Kd.R_reads' HO672.out).2.2 | (with_reducible refine Kd.C_alloc ?_ _) | (with_reducible refine Kd.C_drewN ?_ _) | (with_reducible refine Kd.C_drew ?_))); (case side2 => exact (Kd.R_reads' HO672.out).2.1); rintro e w' ⟨rfl, ⟨nd, rfl⟩⟩; refine ⟨_, rfl, ?_⟩))
 go_ret
 exact ⟨by first | rfl | (simp [errW_none, errW_some] <;> rfl) | (simp [*, errW_none, errW_some] <;> rfl), by repeat (first | (with_reducible first | exact HB.out | apply below_alloc | apply pw_below_drewN | apply below_drew1 | refine below_set ?_ GE666.out) | exact HB.out)⟩
def mortmainref08_Is.f (k : Nat) (l0_0 : List (S84)) (a0_1 : Int) (a0_2 : Int) (a1 : Int) (a2 : Int) : Option (Bool) := (mortmainref08_From.f k l0_0 a0_1 a0_2 (([a1] : List Int))).bind fun t678 => ((mortmainref08_Has.f k t678 a2).bind fun t681 => (some t681))
theorem mortmainref08_Is.mono : ∀ a0 a1 a2 a3 a4 k, LeO (mortmainref08_Is.f k a0 a1 a2 a3 a4) (mortmainref08_Is.f (k + 1) a0 a1 a2 a3 a4) := by
 intro a0 a1 a2 a3 a4 k
 unfold mortmainref08_Is.f
 repeat' first
   | (with_reducible exact mortmainref08_From.mono _ _ _ _ _)
   | (with_reducible exact mortmainref08_Has.mono _ _ _)
   | (with_reducible exact LeO.refl _)
   | (with_reducible exact LeO.none _)
   | (with_reducible refine LeO.ite ?_ ?_)
   | (with_reducible refine LeO.bind ?_ (fun _ => ?_))
   | exact mortmainref08_From.mono _ _ _ _ _
   | exact mortmainref08_Has.mono _ _ _
   | exact LeO.none _
   | refine LeO.ite ?_ ?_
   | refine LeO.bind ?_ (fun _ => ?_)
set_option maxHeartbeats 8000000 in
set_option maxRecDepth 100000 in
theorem mortmainref08_Is.calls (k : Nat) (A0_0 : Option Addr) (c0_0 : Nat) (l0_0 : List (S84)) (a0_1 : Int) (a0_2 : Int) (a1 : Int) (a2 : Int) (r : Bool) (w : World) (hr0_0 : Kd.C k84 w A0_0 l0_0.length l0_0) (hc0_0 : l0_0.length ≤ c0_0) (h : mortmainref08_Is.f k l0_0 a0_1 a0_2 a1 a2 = some r) :
  Calls Try.prog 49 #[.agg #[.slice A0_0 l0_0.length c0_0, .int .i64 a0_1, .int .i64 a0_2], .int .i64 a1, .int .i64 a2] w fun e w' => e = .returned (.bool r) ∧ Below w.heap.size w w' := by
 have hu37 := Try.underlying37
 have HR0_0 := Aside0.mk hr0_0
 have HC0_0 := Aside0.mk hc0_0
 clear hr0_0 hc0_0
 have HB := Aside0.mk (Below.refl w.heap.size w)
 have H : ((mortmainref08_From.f k l0_0 a0_1 a0_2 (([a1] : List Int))).bind fun t678 => ((mortmainref08_Has.f k t678 a2).bind fun t681 => (some t681))) = some r := h
 clear h
 obtain ⟨y675, hy675⟩ : ∃ y_ : List Int, y_ = (([a1] : List Int)) := ⟨_, rfl⟩
 replace H : ((mortmainref08_From.f k l0_0 a0_1 a0_2 y675).bind fun t678 => ((mortmainref08_Has.f k t678 a2).bind fun t681 => (some t681))) = some r := by first | (rw [hy675]; with_reducible exact H) | (have H2_ := (Option.bind_some _ _).symm.trans H; rw [hy675]; with_reducible exact H2_) | (have H2_ := (Option.bind_some _ _).symm.trans H; with_reducible exact H2_) | with_reducible exact H | (rw [hy675]; exact H) | exact H
 have Ny675 := Aside0.mk hy675
 clear hy675
 replace H := Option.bind_eq_some_iff.mp H
 obtain ⟨t678, A40, H⟩ := H
 replace H : ((mortmainref08_Has.f k t678 a2).bind fun t681 => (some t681)) = some r := H
 have A4 := Aside0.mk A40
 clear A40
 replace H := Option.bind_eq_some_iff.mp H
 obtain ⟨t681, A50, H⟩ := H
 replace H : (some t681) = some r := H
 have A5 := Aside0.mk A50
 clear A50
 obtain rfl := Option.some.inj H
 go_enter Try.func49, Try.ntmps49
 go_wp2_with (first | ((with_reducible refine gate_dst (N := 3) rfl ?_); refine box_event ?hg (N := 3) ?hd (cs := #[.slice A0_0 l0_0.length c0_0, .int .i64 a0_1, .int .i64 a0_2]) (t := 37) ?hr ?_; (case hd => rfl); (case hg => rfl); (case hr => first | (go_simp; done) | (go_simp; rfl)); intro gb674 hg w6 hbox hb; have n0_ := Aside0.mk (below_step bT hb); have n1_ := Aside0.mk (hbox); have n2_ := Aside0.mk (gT hg bT); have n3_ := Aside0.mk (gT hg bT); clear HB; have HB := n0_; have BK674 := n1_; have GW674 := n2_; have GE674 := n3_; clear n0_ n1_ n2_ n3_; clear hb hbox hg; have hcz7_0 : w6.cell? ⟨gb674, 0, none⟩ = some (.slice A0_0 l0_0.length c0_0) := (blk_cell BK674.out 0).trans rfl; have hcz7_1 : w6.cell? ⟨gb674, 1, none⟩ = some (.int .i64 a0_1) := (blk_cell BK674.out 1).trans rfl; have hcz7_2 : w6.cell? ⟨gb674, 2, none⟩ = some (.int .i64 a0_2) := (blk_cell BK674.out 2).trans rfl; have hfz7_0 := blk_frozen BK674.out 0; have hfz7_1 := blk_frozen BK674.out 1; have hfz7_2 := blk_frozen BK674.out 2) | ((with_reducible refine gate_dst (N := 9) rfl ?_); refine Kd.R_lit (Kd.int .i64) _ 3 ?hg (N := 9) ?hd (xs := ([a1] : List Int)) (inner := [.int .i64 a1]) (ok := fun _ => True) (okp := fun _ => True) ?hr ?hp (fun _ hk => hk) trivial (Below.refl _ _) (Nat.le_refl _) (by simp) ?_; (case hd => rfl); (case hg => rfl); (case hr => first | (go_simp; done) | (go_simp; rfl)); (case hp => exact (Reps.one (show Kd.M (Kd.int .i64) _ _ _ a1 [.int .i64 a1] from rfl) (Reps.none _ _))); intro v676 w8 ho9 hb hg_ hnew_; clear hg_ hnew_; (first | rw [← Ny675.out] at ho9 | (simp only [Int.reduceToNat] at ho9; rw [← Ny675.out] at ho9)); have n0_ := Aside0.mk (Kd.R_lower ho9 (below_size (bG GE674.out))); have n1_ := Aside0.mk (blk_below (g := gb674) (o := .cells #[.slice A0_0 l0_0.length c0_0, .int .i64 a0_1, .int .i64 a0_2] 37 (0, 0)) (kT BK674.out) hb); have n2_ := Aside0.mk (below_step (bG GE674.out) hb); clear BK674; clear HB; have HO677 := n0_; have BK674 := n1_; have HB := n2_; clear n0_ n1_ n2_; clear hb ho9; obtain ⟨Ao10, co10, eo10⟩ := Kd.R_slice HO677.out; subst eo10) | ((with_reducible refine gate_callee (f := 45) rfl ?_); refine goesL_ (some 10) rfl rfl Try.func45 (by kernel_rfl) rfl #[.agg #[.slice A0_0 l0_0.length c0_0, .int .i64 a0_1, .int .i64 a0_2], .slice Ao10 y675.length co10] rfl mT ?_; (with_reducible refine (mortmainref08_From.calls k _ _ l0_0 a0_1 a0_2 _ _ y675 t678 _ ?side1 ?side2 ?side3 ?side4 A4.out).mono ?_); (case side1 => repeat (first | exact (Kd.C_below HR0_0.out HB.out) | (with_reducible refine Kd.C_alloc ?_ _) | (with_reducible refine Kd.C_drewN ?_ _) | (with_reducible refine Kd.C_drew ?_))); (case side2 => exact HC0_0.out); (case side3 => repeat (first | exact (Kd.R_reads' HO677.out).2.2 | (with_reducible refine Kd.C_alloc ?_ _) | (with_reducible refine Kd.C_drewN ?_ _) | (with_reducible refine Kd.C_drew ?_))); (case side4 => exact (Kd.R_reads' HO677.out).2.1); rintro e w11 ⟨v679, rfl, ho0, hb⟩; refine ⟨_, rfl, ?_⟩; have n0_ := Aside0.mk (Kd.R_elder' (rT HO677.out) (Kd.R_base ho0) hb); have n1_ := Aside0.mk (Kd.R_lower (Kd.R_new' ho0 (Kd.R_lt (rT HO677.out))) (below_size (bG GE674.out))); have n2_ := Aside0.mk (blk_below (g := gb674) (o := .cells #[.slice A0_0 l0_0.length c0_0, .int .i64 a0_1, .int .i64 a0_2] 37 (0, 0)) (kT BK674.out) hb); have n3_ := Aside0.mk (below_step (bG GE674.out) hb); clear HO677; clear BK674; clear HB; have HO677 := n0_; have HO680 := n1_; have BK674 := n2_; have HB := n3_; clear n0_ n1_ n2_ n3_; (try clear hb); (try clear hb2); (try clear hk); (try clear hi); (try clear ho0); obtain ⟨Ao12, co12, eo12⟩ := Kd.R_slice HO680.out; subst eo12) | ((with_reducible refine gate_callee (f := 85) rfl ?_); refine goesL_ (some 12) rfl rfl Try.func85 (by kernel_rfl) rfl #[.slice Ao12 t678.length co12, .int .i64 a2] rfl mT ?_; (with_reducible refine (mortmainref08_Has.calls k _ _ t678 a2 t681 _ ?side1 ?side2 A5.out).mono ?_); (case side1 => repeat (first | exact (Kd.R_reads' HO680.out).2.2 | (with_reducible refine Kd.C_alloc ?_ _) | (with_reducible refine Kd.C_drewN ?_ _) | (with_reducible refine Kd.C_drew ?_))); (case side2 => exact (Kd.R_reads' HO680.out).2.1); rintro e w' ⟨rfl, ⟨nd, rfl⟩⟩; refine ⟨_, rfl, ?_⟩))
 go_ret
 exact ⟨by first | rfl | (simp [errW_none, errW_some] <;> rfl) | (simp [*, errW_none, errW_some] <;> rfl), by repeat (first | (with_reducible first | exact HB.out | apply below_alloc | apply pw_below_drewN | apply below_drew1 | refine below_set ?_ GE674.out) | exact HB.out)⟩
end Go.Proofs.Ytkmjboeabmmecaa.MAll
