/- The functions that the law reaches in plain Lean, and that the calls come to what these say. No condition. (By wip/myprint.py, this session's program over the kit's print.) -/
import Derived.Test.YtkmjboeabmmecaaMAllx0
namespace Go.Proofs.Ytkmjboeabmmecaa.MAll
open Go.RowKit Go.Proofs.YtkmjboeabmmecaaW.PrintWords Go.Proofs.YtkmjboeabmmecaaW.PrintLast Go.Proofs.YtkmjboeabmmecaaW.PrintMore
attribute [local go_sem] max2_int min2_int max_two min_two max_three min_three max_four min_four
set_option linter.unusedVariables false
set_option linter.unusedSimpArgs false
def mortmainlaw06_obj.f (a0_0 : Int) (a0_1 : Int) (a0_2 : Int) (a0_3 : Int) (a0_4 : Bool) (l0_5 : List Int) : Option (Int × Int × Int × Int × Bool × List Int) := some (a0_0, a0_1, a0_2, a0_3, a0_4, l0_5)
set_option maxHeartbeats 8000000 in
set_option maxRecDepth 100000 in
theorem mortmainlaw06_obj.calls (a0_0 : Int) (a0_1 : Int) (a0_2 : Int) (a0_3 : Int) (a0_4 : Bool) (P0_5_ : Nat → Prop) (A0_5 : Option Addr) (c0_5 : Nat) (l0_5 : List Int) (r1 : Int) (r2 : Int) (r3 : Int) (r4 : Int) (r5 : Bool) (r6 : List Int) (w : World) (hs0_5 : Kd.V (Kd.int .i64) 3 w w.heap.size (fun k_ => P0_5_ k_) (.slice A0_5 l0_5.length c0_5) l0_5) (h : mortmainlaw06_obj.f a0_0 a0_1 a0_2 a0_3 a0_4 l0_5 = some (r1, r2, r3, r4, r5, r6)) :
  Calls Try.prog 20 #[.agg #[.int .i64 a0_0, .int .i64 a0_1, .int .i64 a0_2, .int .i64 a0_3, .bool a0_4, .slice A0_5 l0_5.length c0_5]] w fun e w' => ∃ v5_ : Value, e = .returned (.agg #[.int .i64 r1, .int .i64 r2, .int .i64 r3, .int .i64 r4, .bool r5, v5_]) ∧ Kd.V (Kd.int .i64) 3 w' w.heap.size (fun k_ => (P0_5_ k_ ∨ w.heap.size ≤ k_)) v5_ r6 ∧ Below w.heap.size w w' := by
 have hu29 := Try.underlying29
 have hu41 := Try.underlying41
 have HO0_5 := Aside0.mk (show Kd.V (Kd.int .i64) 3 w w.heap.size (fun k_ => (P0_5_ k_ ∨ w.heap.size ≤ k_)) (.slice A0_5 l0_5.length c0_5) l0_5 from Kd.V_mono hs0_5 (fun k_ hk => .inl hk))
 have HB := Aside0.mk (Below.refl w.heap.size w)
 have H : (some (a0_0, a0_1, a0_2, a0_3, a0_4, l0_5)) = some (r1, r2, r3, r4, r5, r6) := h
 clear h
 simp only [Option.some.injEq, Prod.mk.injEq] at H
 obtain ⟨rfl, rfl, rfl, rfl, rfl, rfl⟩ := H
 go_enter Try.func20, Try.ntmps20
 go_wp2_with (first | ((with_reducible refine gate_dst (N := 1) rfl ?_); refine box_event ?hg (N := 1) ?hd (cs := #[.int .i64 a0_0, .int .i64 a0_1, .int .i64 a0_2, .int .i64 a0_3, .bool a0_4, .slice A0_5 l0_5.length c0_5]) (t := 29) ?hr ?_; (case hd => rfl); (case hg => rfl); (case hr => first | (go_simp; done) | (go_simp; rfl)); intro gb101 hg w2 hbox hb; have n0_ := Aside0.mk (Kd.V_below (Kd.V_elderB (by (with_reducible repeat (first | apply Kd.V_alloc | apply Kd.V_drewN | apply Kd.V_drew)); exact HO0_5.out) gb101 (Nat.le_of_eq hg.symm)) hb); have n1_ := Aside0.mk (below_step bT hb); have n2_ := Aside0.mk (hbox); have n3_ := Aside0.mk (gT hg bT); have n4_ := Aside0.mk (gT hg bT); clear HO0_5; clear HB; have HO0_5 := n0_; have HB := n1_; have BK101 := n2_; have GW101 := n3_; have GE101 := n4_; clear n0_ n1_ n2_ n3_ n4_; clear hb hbox hg) | ((with_reducible refine gate_dst (N := 2) rfl ?_); refine box_event ?hg (N := 2) ?hd (cs := #[.int .i64 0, .int .i64 0, .int .i64 0, .int .i64 0, .bool false, .slice none 0 0]) (t := 41) ?hr ?_; (case hd => rfl); (case hg => rfl); (case hr => first | (go_simp; done) | (go_simp; rfl)); intro gb102 hg w3 hbox hb; have n0_ := Aside0.mk (Kd.V_below (Kd.V_elderB (by (with_reducible repeat (first | apply Kd.V_alloc | apply Kd.V_drewN | apply Kd.V_drew)); exact HO0_5.out) gb102 (Nat.le_of_eq hg.symm)) hb); have n1_ := Aside0.mk (blk_below (g := gb101) (o := .cells #[.int .i64 a0_0, .int .i64 a0_1, .int .i64 a0_2, .int .i64 a0_3, .bool a0_4, .slice A0_5 l0_5.length c0_5] 29 (0, 0)) (kT BK101.out) hb); have n2_ := Aside0.mk (below_step (bG GE101.out) hb); have n3_ := Aside0.mk (hbox); have n4_ := Aside0.mk (gT hg (bG GE101.out)); have n5_ := Aside0.mk (gT hg (bG GE101.out)); have n6_ := Aside0.mk ((by rw [hg]; exact Nat.ne_of_lt (blk_lt (g := gb101) (o := .cells #[.int .i64 a0_0, .int .i64 a0_1, .int .i64 a0_2, .int .i64 a0_3, .bool a0_4, .slice A0_5 l0_5.length c0_5] 29 (0, 0)) (kT BK101.out)) : gb101 ≠ gb102)); have n7_ := Aside0.mk ((by rw [hg]; exact Nat.ne_of_gt (blk_lt (g := gb101) (o := .cells #[.int .i64 a0_0, .int .i64 a0_1, .int .i64 a0_2, .int .i64 a0_3, .bool a0_4, .slice A0_5 l0_5.length c0_5] 29 (0, 0)) (kT BK101.out)) : gb102 ≠ gb101)); clear HO0_5; clear BK101; clear HB; have HO0_5 := n0_; have BK101 := n1_; have HB := n2_; have BK102 := n3_; have GW102 := n4_; have GE102 := n5_; have NB101_102 := n6_; have NB102_101 := n7_; clear n0_ n1_ n2_ n3_ n4_ n5_ n6_ n7_; clear hb hbox hg; have hnb4 := NB101_102.out; have hnc4 := NB102_101.out; have hcz5_0 : w3.cell? ⟨gb101, 0, none⟩ = some (.int .i64 a0_0) := (blk_cell BK101.out 0).trans rfl; have hcz5_1 : w3.cell? ⟨gb101, 1, none⟩ = some (.int .i64 a0_1) := (blk_cell BK101.out 1).trans rfl; have hcz5_2 : w3.cell? ⟨gb101, 2, none⟩ = some (.int .i64 a0_2) := (blk_cell BK101.out 2).trans rfl; have hcz5_3 : w3.cell? ⟨gb101, 3, none⟩ = some (.int .i64 a0_3) := (blk_cell BK101.out 3).trans rfl; have hcz5_4 : w3.cell? ⟨gb101, 4, none⟩ = some (.bool a0_4) := (blk_cell BK101.out 4).trans rfl; have hcz5_5 : w3.cell? ⟨gb101, 5, none⟩ = some (.slice A0_5 l0_5.length c0_5) := (blk_cell BK101.out 5).trans rfl; have hfz5_0 := blk_frozen BK101.out 0; have hfz5_1 := blk_frozen BK101.out 1; have hfz5_2 := blk_frozen BK101.out 2; have hfz5_3 := blk_frozen BK101.out 3; have hfz5_4 := blk_frozen BK101.out 4; have hfz5_5 := blk_frozen BK101.out 5; have hcz6_0 : w3.cell? ⟨gb102, 0, none⟩ = some (.int .i64 0) := (blk_cell BK102.out 0).trans rfl; have hcz6_1 : w3.cell? ⟨gb102, 1, none⟩ = some (.int .i64 0) := (blk_cell BK102.out 1).trans rfl; have hcz6_2 : w3.cell? ⟨gb102, 2, none⟩ = some (.int .i64 0) := (blk_cell BK102.out 2).trans rfl; have hcz6_3 : w3.cell? ⟨gb102, 3, none⟩ = some (.int .i64 0) := (blk_cell BK102.out 3).trans rfl; have hcz6_4 : w3.cell? ⟨gb102, 4, none⟩ = some (.bool false) := (blk_cell BK102.out 4).trans rfl; have hcz6_5 : w3.cell? ⟨gb102, 5, none⟩ = some (.slice none 0 0) := (blk_cell BK102.out 5).trans rfl; have hfz6_0 := blk_frozen BK102.out 0; have hfz6_1 := blk_frozen BK102.out 1; have hfz6_2 := blk_frozen BK102.out 2; have hfz6_3 := blk_frozen BK102.out 3; have hfz6_4 := blk_frozen BK102.out 4; have hfz6_5 := blk_frozen BK102.out 5))
 refine bodyPost_ret (results_cell_row rfl _ _ gb102 41 #[.int .i64 a0_0, .int .i64 a0_1, .int .i64 a0_2, .int .i64 a0_3, .bool a0_4, .slice A0_5 l0_5.length c0_5] (0, 0) _ rfl (by (with_reducible repeat (first | refine blk_drewN ?_ _ | refine blk_drew ?_ | refine blk_alloc ?_ _)); refine blk_put (cs := #[.int .i64 a0_0, .int .i64 a0_1, .int .i64 a0_2, .int .i64 a0_3, .bool a0_4, .slice none 0 0]) ?_ 5 _ rfl; (with_reducible repeat (first | refine blk_drewN ?_ _ | refine blk_drew ?_ | refine blk_alloc ?_ _)); refine blk_put (cs := #[.int .i64 a0_0, .int .i64 a0_1, .int .i64 a0_2, .int .i64 a0_3, .bool false, .slice none 0 0]) ?_ 4 _ rfl; (with_reducible repeat (first | refine blk_drewN ?_ _ | refine blk_drew ?_ | refine blk_alloc ?_ _)); refine blk_put (cs := #[.int .i64 a0_0, .int .i64 a0_1, .int .i64 a0_2, .int .i64 0, .bool false, .slice none 0 0]) ?_ 3 _ rfl; (with_reducible repeat (first | refine blk_drewN ?_ _ | refine blk_drew ?_ | refine blk_alloc ?_ _)); refine blk_put (cs := #[.int .i64 a0_0, .int .i64 a0_1, .int .i64 0, .int .i64 0, .bool false, .slice none 0 0]) ?_ 2 _ rfl; (with_reducible repeat (first | refine blk_drewN ?_ _ | refine blk_drew ?_ | refine blk_alloc ?_ _)); refine blk_put (cs := #[.int .i64 a0_0, .int .i64 0, .int .i64 0, .int .i64 0, .bool false, .slice none 0 0]) ?_ 1 _ rfl; (with_reducible repeat (first | refine blk_drewN ?_ _ | refine blk_drew ?_ | refine blk_alloc ?_ _)); refine blk_put (cs := #[.int .i64 0, .int .i64 0, .int .i64 0, .int .i64 0, .bool false, .slice none 0 0]) ?_ 0 _ rfl; (with_reducible repeat (first | refine blk_drewN ?_ _ | refine blk_drew ?_ | refine blk_alloc ?_ _)); exact BK102.out) Try.underlying41 rfl (by kernel_rfl)) rfl ?_
 exact ⟨_, by first | rfl | (simp [errW_none, errW_some] <;> rfl) | (simp [*, errW_none, errW_some] <;> rfl), by (with_reducible repeat (first | apply Kd.V_alloc | apply Kd.V_drewN | apply Kd.V_drew)); exact Kd.V_mono (Kd.V_far (p := ⟨gb102, 5, none⟩) (Kd.V_far (p := ⟨gb102, 4, none⟩) (Kd.V_far (p := ⟨gb102, 3, none⟩) (Kd.V_far (p := ⟨gb102, 2, none⟩) (Kd.V_far (p := ⟨gb102, 1, none⟩) (Kd.V_far (p := ⟨gb102, 0, none⟩) (Kd.V_mono HO0_5.out (fun k_ hk => (⟨hk, hk.2⟩ : _ ∧ k_ ≠ gb102))) (fun _ hk => hk.2) (.int .i64 a0_0)) (fun _ hk => hk.2) (.int .i64 a0_1)) (fun _ hk => hk.2) (.int .i64 a0_2)) (fun _ hk => hk.2) (.int .i64 a0_3)) (fun _ hk => hk.2) (.bool a0_4)) (fun _ hk => hk.2) (.slice A0_5 l0_5.length c0_5)) (fun _ hk => hk.1.1.1), by repeat (first | (with_reducible first | exact HB.out | apply below_alloc | apply pw_below_drewN | apply below_drew1 | refine below_set ?_ GE101.out | refine below_set ?_ GE102.out) | exact HB.out)⟩
def mortmainlaw06_its.l0 : Nat → List (S84) → Int → List (S82) → Int → Int → Option ((List (S84)) × Int × Int)
 | 0, _, _, _, _, _ => none
 | k + 1, x3, x4, x104000, x104001, x104002 => if x4 < (x104000.length : Int) then (if 0 ≤ x4 then ((mortmainlaw06_obj.f ((rd_T82 x104000 x4).f2.f0) ((rd_T82 x104000 x4).f2.f1) ((rd_T82 x104000 x4).f2.f2) ((rd_T82 x104000 x4).f2.f3) ((rd_T82 x104000 x4).f2.f4) ((rd_T82 x104000 x4).f2.f5)).bind fun bt110 => (if x3.length < 1759218604441 then (mortmainlaw06_its.l0 k (x3 ++ [(⟨(rd_T82 x104000 x4).f0, (rd_T82 x104000 x4).f1, (⟨bt110.1, bt110.2.1, bt110.2.2.1, bt110.2.2.2.1, bt110.2.2.2.2.1, bt110.2.2.2.2.2⟩ : S41)⟩ : S84)]) (wrap64 (x4 + 1)) x104000 x104001 x104002) else (none))) else (none)) else (some (x3, x104001, x104002))
def mortmainlaw06_its.f (k : Nat) (l0_0 : List (S82)) (a0_1 : Int) (a0_2 : Int) : Option ((List (S84)) × Int × Int) := mortmainlaw06_its.l0 k (([] : List (S84))) 0 l0_0 a0_1 a0_2
theorem mortmainlaw06_its.mono_l : ∀ k, (∀ y0 y1 y2 y3 y4, LeO (mortmainlaw06_its.l0 k y0 y1 y2 y3 y4) (mortmainlaw06_its.l0 (k + 1) y0 y1 y2 y3 y4))
 | 0 => fun _ _ _ _ _ r h => by simp [mortmainlaw06_its.l0] at h
 | k + 1 => by
  have ih0 := mortmainlaw06_its.mono_l k
  ·intro y0 y1 y2 y3 y4
   unfold mortmainlaw06_its.l0
   repeat' first
   | (with_reducible exact ih0 _ _ _ _ _)
   | (with_reducible exact LeO.refl _)
   | (with_reducible exact LeO.none _)
   | (with_reducible refine LeO.ite ?_ ?_)
   | (with_reducible refine LeO.bind ?_ (fun _ => ?_))
   | exact ih0 _ _ _ _ _
   | exact LeO.none _
   | refine LeO.ite ?_ ?_
   | refine LeO.bind ?_ (fun _ => ?_)
theorem mortmainlaw06_its.mono : ∀ a0 a1 a2 k, LeO (mortmainlaw06_its.f k a0 a1 a2) (mortmainlaw06_its.f (k + 1) a0 a1 a2) := by
 intro a0 a1 a2 k
 have ih0 := mortmainlaw06_its.mono_l k
 unfold mortmainlaw06_its.f
 repeat' first
   | (with_reducible exact ih0 _ _ _ _ _)
   | (with_reducible exact LeO.refl _)
   | (with_reducible exact LeO.none _)
   | (with_reducible refine LeO.ite ?_ ?_)
   | (with_reducible refine LeO.bind ?_ (fun _ => ?_))
   | exact ih0 _ _ _ _ _
   | exact LeO.none _
   | refine LeO.ite ?_ ?_
   | refine LeO.bind ?_ (fun _ => ?_)
def mortmainlaw06_its.T6 : Bool × List (List Nat × List Nat) := (true, [([], []), ([], []), ([1], [1]), ([], []), ([3], [3]), ([], []), ([5], [5]), ([6], [6]), ([2, 4, 7], [2, 4, 7]), ([8], [8]), ([0, 9, 7], [0, 9]), ([10, 10, 0, 1, 2, 3, 4, 5, 6, 7, 8, 9, 10], [0, 10])])
def mortmainlaw06_its.B6 : List Nat := [0, 0, 2, 0, 8, 0, 32, 96, 254, 510, 1023, 2047]
theorem mortmainlaw06_its.tab6 : rtab .any (opsOf Try.f19 6) = mortmainlaw06_its.T6 := by kernel_rfl
theorem mortmainlaw06_its.bits6 : waitsOk mortmainlaw06_its.T6.2 mortmainlaw06_its.B6 = true := by kernel_rfl
set_option maxHeartbeats 8000000 in
set_option maxRecDepth 100000 in
theorem mortmainlaw06_its.calls (k : Nat) (P0_0_ : Nat → Prop) (A0_0 : Option Addr) (c0_0 : Nat) (l0_0 : List (S82)) (a0_1 : Int) (a0_2 : Int) (r1 : List (S84)) (r2 : Int) (r3 : Int) (w : World) (hs0_0 : Kd.V k82 82 w w.heap.size (fun k_ => P0_0_ k_) (.slice A0_0 l0_0.length c0_0) l0_0) (h : mortmainlaw06_its.f k l0_0 a0_1 a0_2 = some (r1, r2, r3)) :
  Calls Try.prog 19 #[.agg #[.slice A0_0 l0_0.length c0_0, .int .i64 a0_1, .int .i64 a0_2]] w fun e w' => ∃ v0_ : Value, e = .returned (.agg #[v0_, .int .i64 r2, .int .i64 r3]) ∧ Kd.N k84 84 w' w.heap.size (fun k_ => (P0_0_ k_ ∨ w.heap.size ≤ k_)) v0_ r1 ∧ Below w.heap.size w w' := by
 have hu26 := Try.underlying26
 have hu37 := Try.underlying37
 have hu82 := Try.underlying82
 have hu29 := Try.underlying29
 have hu84 := Try.underlying84
 have HO0_0 := Aside0.mk (show Kd.V k82 82 w w.heap.size (fun k_ => (P0_0_ k_ ∨ w.heap.size ≤ k_)) (.slice A0_0 l0_0.length c0_0) l0_0 from Kd.V_mono hs0_0 (fun k_ hk => .inl hk))
 have HB := Aside0.mk (Below.refl w.heap.size w)
 have H : (mortmainlaw06_its.l0 k (([] : List (S84))) 0 l0_0 a0_1 a0_2) = some (r1, r2, r3) := h
 clear h
 obtain ⟨y105, hy105⟩ : ∃ y_ : List (S84), y_ = (([] : List (S84))) := ⟨_, rfl⟩
 replace H : (mortmainlaw06_its.l0 k y105 0 l0_0 a0_1 a0_2) = some (r1, r2, r3) := by first | (rw [hy105]; with_reducible exact H) | (have H2_ := (Option.bind_some _ _).symm.trans H; rw [hy105]; with_reducible exact H2_) | (have H2_ := (Option.bind_some _ _).symm.trans H; with_reducible exact H2_) | with_reducible exact H | (rw [hy105]; exact H) | exact H
 have Ny105 := Aside0.mk hy105
 clear hy105
 have H' := Aside0.mk H
 clear H
 go_enter Try.func19, Try.ntmps19
 go_wp2_with (first | ((with_reducible refine gate_dst (N := 1) rfl ?_); refine box_event ?hg (N := 1) ?hd (cs := #[.slice A0_0 l0_0.length c0_0, .int .i64 a0_1, .int .i64 a0_2]) (t := 26) ?hr ?_; (case hd => rfl); (case hg => rfl); (case hr => first | (go_simp; done) | (go_simp; rfl)); intro gb103 hg w2 hbox hb; have n0_ := Aside0.mk (Kd.V_below (Kd.V_elderB (by (with_reducible repeat (first | apply Kd.V_alloc | apply Kd.V_drewN | apply Kd.V_drew)); exact HO0_0.out) gb103 (Nat.le_of_eq hg.symm)) hb); have n1_ := Aside0.mk (below_step bT hb); have n2_ := Aside0.mk (hbox); have n3_ := Aside0.mk (gT hg bT); have n4_ := Aside0.mk (gT hg bT); clear HO0_0; clear HB; have HO0_0 := n0_; have HB := n1_; have BK103 := n2_; have GW103 := n3_; have GE103 := n4_; clear n0_ n1_ n2_ n3_ n4_; clear hb hbox hg) | ((with_reducible refine gate_dst (N := 2) rfl ?_); refine box_event ?hg (N := 2) ?hd (cs := #[.slice none 0 0, .int .i64 0, .int .i64 0]) (t := 37) ?hr ?_; (case hd => rfl); (case hg => rfl); (case hr => first | (go_simp; done) | (go_simp; rfl)); intro gb104 hg w3 hbox hb; have n0_ := Aside0.mk (Kd.V_below (Kd.V_elderB (by (with_reducible repeat (first | apply Kd.V_alloc | apply Kd.V_drewN | apply Kd.V_drew)); exact HO0_0.out) gb104 (Nat.le_of_eq hg.symm)) hb); have n1_ := Aside0.mk (blk_below (g := gb103) (o := .cells #[.slice A0_0 l0_0.length c0_0, .int .i64 a0_1, .int .i64 a0_2] 26 (0, 0)) (kT BK103.out) hb); have n2_ := Aside0.mk (below_step (bG GE103.out) hb); have n3_ := Aside0.mk (hbox); have n4_ := Aside0.mk (gT hg (bG GE103.out)); have n5_ := Aside0.mk (gT hg (bG GE103.out)); have n6_ := Aside0.mk ((by rw [hg]; exact Nat.ne_of_lt (blk_lt (g := gb103) (o := .cells #[.slice A0_0 l0_0.length c0_0, .int .i64 a0_1, .int .i64 a0_2] 26 (0, 0)) (kT BK103.out)) : gb103 ≠ gb104)); have n7_ := Aside0.mk ((by rw [hg]; exact Nat.ne_of_gt (blk_lt (g := gb103) (o := .cells #[.slice A0_0 l0_0.length c0_0, .int .i64 a0_1, .int .i64 a0_2] 26 (0, 0)) (kT BK103.out)) : gb104 ≠ gb103)); clear HO0_0; clear BK103; clear HB; have HO0_0 := n0_; have BK103 := n1_; have HB := n2_; have BK104 := n3_; have GW104 := n4_; have GE104 := n5_; have NB103_104 := n6_; have NB104_103 := n7_; clear n0_ n1_ n2_ n3_ n4_ n5_ n6_ n7_; clear hb hbox hg) | ((with_reducible refine gate_dst (N := 6) rfl ?_); refine Kd.N_lit k84 _ 84 ?hg (N' := 6) ?hd (xs := ([] : List (S84))) (inner := []) (ok := (fun k_ => (P0_0_ k_ ∨ w.heap.size ≤ k_) ∧ k_ ≠ gb103 ∧ k_ ≠ gb104)) (okp := (fun k_ => (P0_0_ k_ ∨ w.heap.size ≤ k_) ∧ k_ ≠ gb103 ∧ k_ ≠ gb104)) ?hr ?hp (fun _ hk => hk) ((show ∀ k_, w3.heap.size ≤ k_ → (fun k_ => (P0_0_ k_ ∨ w.heap.size ≤ k_) ∧ k_ ≠ gb103 ∧ k_ ≠ gb104) k_ from fun k_ hk => ⟨(.inr (Nat.le_trans (below_size (bH GE103.out GE104.out)) hk)), Kd.freshB (g := gb103) (o := .cells #[.slice A0_0 l0_0.length c0_0, .int .i64 a0_1, .int .i64 a0_2] 26 (0, 0)) (kT BK103.out) k_ hk, Kd.freshB (g := gb104) (o := .cells #[.slice none 0 0, .int .i64 0, .int .i64 0] 37 (0, 0)) (kT BK104.out) k_ hk⟩) _ (Nat.le_refl _)) (Below.refl _ _) (Nat.le_refl _) (by simp) ?_; (case hd => rfl); (case hg => rfl); (case hr => first | (go_simp; done) | (go_simp; rfl)); (case hp => exact (Reps.none _ _)); intro v106 w4 ho5 hb hg_ hnew_; clear hg_ hnew_; (first | rw [← Ny105.out] at ho5 | (simp only [Int.reduceToNat] at ho5; rw [← Ny105.out] at ho5)); have n0_ := Aside0.mk (Kd.V_elder' (by (with_reducible repeat (first | apply Kd.V_alloc | apply Kd.V_drewN | apply Kd.V_drew)); exact HO0_0.out) (Kd.N_base ho5) hb); have n1_ := Aside0.mk (Kd.N_lower ho5 (below_size (bH GE103.out GE104.out))); have n2_ := Aside0.mk (blk_below (g := gb103) (o := .cells #[.slice A0_0 l0_0.length c0_0, .int .i64 a0_1, .int .i64 a0_2] 26 (0, 0)) (kT BK103.out) hb); have n3_ := Aside0.mk (blk_below (g := gb104) (o := .cells #[.slice none 0 0, .int .i64 0, .int .i64 0] 37 (0, 0)) (kT BK104.out) hb); have n4_ := Aside0.mk (below_step (bH GE103.out GE104.out) hb); clear HO0_0; clear BK103; clear BK104; clear HB; have HO0_0 := n0_; have HO107 := n1_; have BK103 := n2_; have BK104 := n3_; have HB := n4_; clear n0_ n1_ n2_ n3_ n4_; clear hb ho5))
 go_loopg [3, 4] k (fun kq v3 v4 w' => ∃ (x3_1 : List (S84)) (x4_1 : Int), v4 = .int .i64 x4_1 ∧ Aside0 (mortmainlaw06_its.l0 kq x3_1 x4_1 l0_0 a0_1 a0_2 = some (r1, r2, r3)) ∧ Aside0 (kq ≤ k) ∧ Aside0 (Kd.N k84 84 w' w.heap.size (fun k_ => (P0_0_ k_ ∨ w.heap.size ≤ k_) ∧ k_ ≠ gb103 ∧ k_ ≠ gb104) v3 x3_1) ∧ Aside0 (Kd.V k82 82 w' w.heap.size (fun k_ => (P0_0_ k_ ∨ w.heap.size ≤ k_) ∧ some k_ ≠ (v3 : Value).ownBlock ∧ k_ ≠ gb103 ∧ k_ ≠ gb104) (.slice A0_0 l0_0.length c0_0) l0_0) ∧ Aside0 (w'.heap[gb103]? = some (.cells #[(.slice A0_0 l0_0.length c0_0), .int .i64 a0_1, .int .i64 a0_2] 26 (0, 0))) ∧ Aside0 (w'.heap[gb104]? = some (.cells #[(.slice none 0 0), .int .i64 0, .int .i64 0] 37 (0, 0))) ∧ Aside0 (Below w.heap.size w w'))
 case atStart => exact ⟨(y105), (0), (by first | rfl | (simp; done) | (simp [*]; done)), H', ⟨Nat.le_refl _⟩, ⟨by (with_reducible repeat (first | apply Kd.N_alloc | apply Kd.N_drewN | apply Kd.N_drew)); exact HO107.out⟩, ⟨by (with_reducible repeat (first | apply Kd.V_alloc | apply Kd.V_drewN | apply Kd.V_drew)); exact Kd.V_mono HO0_0.out (fun _ hk => ⟨hk.1.1.1, ⟨hk.2, ⟨hk.1.1.2, hk.1.2⟩⟩⟩)⟩, ⟨by (with_reducible repeat (first | refine blk_drewN ?_ _ | refine blk_drew ?_ | refine blk_alloc ?_ _)); exact BK103.out⟩, ⟨by (with_reducible repeat (first | refine blk_drewN ?_ _ | refine blk_drew ?_ | refine blk_alloc ?_ _)); exact BK104.out⟩, ⟨by repeat (first | (with_reducible first | exact HB.out | apply below_alloc | apply pw_below_drewN | apply below_drew1 | refine below_set ?_ GE103.out | refine below_set ?_ GE104.out) | exact HB.out)⟩⟩
 case round =>
  clear H'
  try clear c1
  try clear p2
  obtain ⟨x3_1, x4_1, rfl, HA, HK1, HO_3, HO_104000, BK103, BK104, HB⟩ := hrel
  cases gk with
  | zero => exact absurd HA.out (by simp [mortmainlaw06_its.l0])
  | succ k1 =>
   have H := HA.out
   clear HA
   simp only [mortmainlaw06_its.l0] at H
   by_cases c6 : x4_1 < (l0_0.length : Int)
   ·rw [if_pos c6] at H
    have c6b0 : decide (x4_1 < (l0_0.length : Int)) = true := decide_eq_true c6
    clear c6
    by_cases c7 : 0 ≤ x4_1
    ·rw [if_pos c7] at H
     have c7b0 : decide (0 ≤ x4_1) = true := decide_eq_true c7
     clear c7
     replace H := Option.bind_eq_some_iff.mp H
     obtain ⟨⟨t110, t111, t112, t113, t114, t115⟩, A80, H⟩ := H
     replace H : (if x3_1.length < 1759218604441 then (mortmainlaw06_its.l0 k1 (x3_1 ++ [(⟨(rd_T82 l0_0 x4_1).f0, (rd_T82 l0_0 x4_1).f1, (⟨t110, t111, t112, t113, t114, t115⟩ : S41)⟩ : S84)]) (wrap64 (x4_1 + 1)) l0_0 a0_1 a0_2) else (none)) = some (r1, r2, r3) := H
     have A8 := Aside0.mk A80
     clear A80
     by_cases c9 : x3_1.length < 1759218604441
     ·rw [if_pos c9] at H
      have LMc9 := Aside0.mk c9
      clear c9
      obtain ⟨y118, hy118⟩ : ∃ y_ : List (S84), y_ = (x3_1 ++ [(⟨(rd_T82 l0_0 x4_1).f0, (rd_T82 l0_0 x4_1).f1, (⟨t110, t111, t112, t113, t114, t115⟩ : S41)⟩ : S84)]) := ⟨_, rfl⟩
      replace H : (mortmainlaw06_its.l0 k1 y118 (wrap64 (x4_1 + 1)) l0_0 a0_1 a0_2) = some (r1, r2, r3) := by first | (rw [hy118]; with_reducible exact H) | (have H2_ := (Option.bind_some _ _).symm.trans H; rw [hy118]; with_reducible exact H2_) | (have H2_ := (Option.bind_some _ _).symm.trans H; with_reducible exact H2_) | with_reducible exact H | (rw [hy118]; exact H) | exact H
      have Ny118 := Aside0.mk hy118
      clear hy118
      have H' := Aside0.mk H
      clear H
      have hnb10 := NB103_104.out
      have hnc10 := NB104_103.out
      have hcz11_0 : wr.cell? ⟨gb103, 0, none⟩ = some (.slice A0_0 l0_0.length c0_0) := (blk_cell BK103.out 0).trans rfl
      have hcz11_1 : wr.cell? ⟨gb103, 1, none⟩ = some (.int .i64 a0_1) := (blk_cell BK103.out 1).trans rfl
      have hcz11_2 : wr.cell? ⟨gb103, 2, none⟩ = some (.int .i64 a0_2) := (blk_cell BK103.out 2).trans rfl
      have hfz11_0 := blk_frozen BK103.out 0
      have hfz11_1 := blk_frozen BK103.out 1
      have hfz11_2 := blk_frozen BK103.out 2
      have p108 : 0 ≤ (x4_1 : Int) := oT
      have q108 : x4_1 < (l0_0.length : Int) := oT
      obtain ⟨ad108, A108_7, c108_7, e108, hx108_0, hx108_1, hx108_2, hx108_3, hx108_4, hx108_5, hx108_6, hx108_7, hl108_7, hi108_7⟩ := at_T82 (Kd.V_reads' HO_104000.out).2.2 x4_1 p108 q108
      cases e108
      obtain ⟨ce108, hce108, hMe108, hcc108⟩ := Kd.V_get HO_104000.out z82 x4_1 p108 (by first | exact q108 | exact oT | (have e_ := (Kd.V_reads' HO_104000.out).1; omega))
      obtain ⟨ua108_7, uc108_7, rfl, ul108_7, ge108_7⟩ := k82_openF hMe108
      have hv108_7 := hcc108 7 _ rfl
      rw [add_field _ _ 7 (by omega)] at hv108_7
      replace hv108_7 := Option.some.inj (hv108_7.symm.trans hx108_7)
      injection hv108_7 with hva_ hvn_ hvc_
      rw [hva_] at ge108_7
      rw [hvc_] at ul108_7
      have HL108_7 := Aside0.mk (show Kd.V (Kd.int .i64) 3 _ w.heap.size _ _ ((rd_T82 l0_0 x4_1).f2.f5) from Kd.V_mk ul108_7 ge108_7)
      clear hva_ hvn_ hvc_ ge108_7 ul108_7
      clear hcc108 hce108
      have HR108_7 := Aside0.mk hi108_7
      have HC108_7 := Aside0.mk hl108_7
      clear hi108_7 hl108_7
      replace p108 := eq_true p108
      replace q108 := eq_true q108
      try go_wp2_with (first | ((with_reducible refine gate_dst (N := 5) rfl ?_); refine box_event ?hg (N := 5) ?hd (cs := #[.int .i64 0, .int .i64 0, .int .i64 0, .int .i64 0, .int .i64 0, .int .i64 0, .bool false, .slice none 0 0]) (t := 82) ?hr ?_; (case hd => rfl); (case hg => rfl); (case hr => first | (go_simp; done) | (go_simp; rfl)); intro gb109 hg w12 hbox hb; have n0_ := Aside0.mk (Kd.N_below (Kd.N_elderB (by (with_reducible repeat (first | apply Kd.N_alloc | apply Kd.N_drewN | apply Kd.N_drew)); exact HO_3.out) gb109 (Nat.le_of_eq hg.symm)) hb); have n1_ := Aside0.mk (Kd.V_below (Kd.V_elderB (by (with_reducible repeat (first | apply Kd.V_alloc | apply Kd.V_drewN | apply Kd.V_drew)); exact HO_104000.out) gb109 (Nat.le_of_eq hg.symm)) hb); have n2_ := Aside0.mk (Kd.V_below (Kd.V_elderB (by (with_reducible repeat (first | apply Kd.V_alloc | apply Kd.V_drewN | apply Kd.V_drew)); exact HL108_7.out) gb109 (Nat.le_of_eq hg.symm)) hb); have n3_ := Aside0.mk (blk_below (g := gb103) (o := .cells #[.slice (some ad108) l0_0.length c0_0, .int .i64 a0_1, .int .i64 a0_2] 26 (0, 0)) (kT BK103.out) hb); have n4_ := Aside0.mk (blk_below (g := gb104) (o := .cells #[.slice none 0 0, .int .i64 0, .int .i64 0] 37 (0, 0)) (kT BK104.out) hb); have n5_ := Aside0.mk (Kd.C_below (by repeat (first | (with_reducible exact HR108_7.out) | (with_reducible refine Kd.C_alloc ?_ _) | (with_reducible refine Kd.C_drewN ?_ _) | (with_reducible refine Kd.C_drew ?_) | exact HR108_7.out)) hb); have n6_ := Aside0.mk (below_step (bH GE103.out GE104.out) hb); have n7_ := Aside0.mk (hbox); have n8_ := Aside0.mk (gT hg (bH GE103.out GE104.out)); have n9_ := Aside0.mk (gT hg (bH GE103.out GE104.out)); have n10_ := Aside0.mk ((by rw [hg]; exact Nat.ne_of_lt (blk_lt (g := gb103) (o := .cells #[.slice (some ad108) l0_0.length c0_0, .int .i64 a0_1, .int .i64 a0_2] 26 (0, 0)) (kT BK103.out)) : gb103 ≠ gb109)); have n11_ := Aside0.mk ((by rw [hg]; exact Nat.ne_of_gt (blk_lt (g := gb103) (o := .cells #[.slice (some ad108) l0_0.length c0_0, .int .i64 a0_1, .int .i64 a0_2] 26 (0, 0)) (kT BK103.out)) : gb109 ≠ gb103)); have n12_ := Aside0.mk ((by rw [hg]; exact Nat.ne_of_lt (blk_lt (g := gb104) (o := .cells #[.slice none 0 0, .int .i64 0, .int .i64 0] 37 (0, 0)) (kT BK104.out)) : gb104 ≠ gb109)); have n13_ := Aside0.mk ((by rw [hg]; exact Nat.ne_of_gt (blk_lt (g := gb104) (o := .cells #[.slice none 0 0, .int .i64 0, .int .i64 0] 37 (0, 0)) (kT BK104.out)) : gb109 ≠ gb104)); clear HO_3; clear HO_104000; clear HL108_7; clear BK103; clear BK104; clear HR108_7; clear HB; have HO_3 := n0_; have HO_104000 := n1_; have HL108_7 := n2_; have BK103 := n3_; have BK104 := n4_; have HR108_7 := n5_; have HB := n6_; have BK109 := n7_; have GW109 := n8_; have GE109 := n9_; have NB103_109 := n10_; have NB109_103 := n11_; have NB104_109 := n12_; have NB109_104 := n13_; clear n0_ n1_ n2_ n3_ n4_ n5_ n6_ n7_ n8_ n9_ n10_ n11_ n12_ n13_; clear hb hbox hg; have hnb13 := NB109_103.out; have hnc13 := NB103_109.out; have hnb14 := NB109_104.out; have hnc14 := NB104_109.out; have hcz15_0 : w12.cell? ⟨gb109, 0, none⟩ = some (.int .i64 0) := (blk_cell BK109.out 0).trans rfl; have hcz15_1 : w12.cell? ⟨gb109, 1, none⟩ = some (.int .i64 0) := (blk_cell BK109.out 1).trans rfl; have hcz15_2 : w12.cell? ⟨gb109, 2, none⟩ = some (.int .i64 0) := (blk_cell BK109.out 2).trans rfl; have hcz15_3 : w12.cell? ⟨gb109, 3, none⟩ = some (.int .i64 0) := (blk_cell BK109.out 3).trans rfl; have hcz15_4 : w12.cell? ⟨gb109, 4, none⟩ = some (.int .i64 0) := (blk_cell BK109.out 4).trans rfl; have hcz15_5 : w12.cell? ⟨gb109, 5, none⟩ = some (.int .i64 0) := (blk_cell BK109.out 5).trans rfl; have hcz15_6 : w12.cell? ⟨gb109, 6, none⟩ = some (.bool false) := (blk_cell BK109.out 6).trans rfl; have hcz15_7 : w12.cell? ⟨gb109, 7, none⟩ = some (.slice none 0 0) := (blk_cell BK109.out 7).trans rfl; have hfz15_0 := blk_frozen BK109.out 0; have hfz15_1 := blk_frozen BK109.out 1; have hfz15_2 := blk_frozen BK109.out 2; have hfz15_3 := blk_frozen BK109.out 3; have hfz15_4 := blk_frozen BK109.out 4; have hfz15_5 := blk_frozen BK109.out 5; have hfz15_6 := blk_frozen BK109.out 6; have hfz15_7 := blk_frozen BK109.out 7))
      have n0_ : Aside0 (Kd.N k84 84 ((((((((w12.setCell ⟨gb109, 0, none⟩ (.int .i64 ((rd_T82 l0_0 x4_1).f0))).setCell ⟨gb109, 1, none⟩ (.int .i64 ((rd_T82 l0_0 x4_1).f1))).setCell ⟨gb109, 2, none⟩ (.int .i64 ((rd_T82 l0_0 x4_1).f2.f0))).setCell ⟨gb109, 3, none⟩ (.int .i64 ((rd_T82 l0_0 x4_1).f2.f1))).setCell ⟨gb109, 4, none⟩ (.int .i64 ((rd_T82 l0_0 x4_1).f2.f2))).setCell ⟨gb109, 5, none⟩ (.int .i64 ((rd_T82 l0_0 x4_1).f2.f3))).setCell ⟨gb109, 6, none⟩ (.bool ((rd_T82 l0_0 x4_1).f2.f4))).setCell ⟨gb109, 7, none⟩ (.slice A108_7 ((rd_T82 l0_0 x4_1).f2.f5).length c108_7)) w.heap.size (fun k_ => (P0_0_ k_ ∨ w.heap.size ≤ k_) ∧ k_ ≠ gb103 ∧ k_ ≠ gb104 ∧ k_ ≠ gb109) u3 x3_1) := ⟨by (with_reducible repeat (first | apply Kd.N_alloc | apply Kd.N_drewN | apply Kd.N_drew)); exact Kd.N_mono (Kd.N_far (p := ⟨gb109, 7, none⟩) (Kd.N_far (p := ⟨gb109, 6, none⟩) (Kd.N_far (p := ⟨gb109, 5, none⟩) (Kd.N_far (p := ⟨gb109, 4, none⟩) (Kd.N_far (p := ⟨gb109, 3, none⟩) (Kd.N_far (p := ⟨gb109, 2, none⟩) (Kd.N_far (p := ⟨gb109, 1, none⟩) (Kd.N_far (p := ⟨gb109, 0, none⟩) (Kd.N_mono HO_3.out (fun k_ hk => (⟨hk, hk.2⟩ : _ ∧ k_ ≠ gb109))) (fun _ hk => hk.2) (.int .i64 ((rd_T82 l0_0 x4_1).f0))) (fun _ hk => hk.2) (.int .i64 ((rd_T82 l0_0 x4_1).f1))) (fun _ hk => hk.2) (.int .i64 ((rd_T82 l0_0 x4_1).f2.f0))) (fun _ hk => hk.2) (.int .i64 ((rd_T82 l0_0 x4_1).f2.f1))) (fun _ hk => hk.2) (.int .i64 ((rd_T82 l0_0 x4_1).f2.f2))) (fun _ hk => hk.2) (.int .i64 ((rd_T82 l0_0 x4_1).f2.f3))) (fun _ hk => hk.2) (.bool ((rd_T82 l0_0 x4_1).f2.f4))) (fun _ hk => hk.2) (.slice A108_7 ((rd_T82 l0_0 x4_1).f2.f5).length c108_7)) (fun _ hk => ⟨hk.1.1.1, ⟨hk.1.1.2.1, ⟨hk.1.1.2.2, hk.1.2⟩⟩⟩)⟩
      have n1_ : Aside0 (Kd.V k82 82 ((((((((w12.setCell ⟨gb109, 0, none⟩ (.int .i64 ((rd_T82 l0_0 x4_1).f0))).setCell ⟨gb109, 1, none⟩ (.int .i64 ((rd_T82 l0_0 x4_1).f1))).setCell ⟨gb109, 2, none⟩ (.int .i64 ((rd_T82 l0_0 x4_1).f2.f0))).setCell ⟨gb109, 3, none⟩ (.int .i64 ((rd_T82 l0_0 x4_1).f2.f1))).setCell ⟨gb109, 4, none⟩ (.int .i64 ((rd_T82 l0_0 x4_1).f2.f2))).setCell ⟨gb109, 5, none⟩ (.int .i64 ((rd_T82 l0_0 x4_1).f2.f3))).setCell ⟨gb109, 6, none⟩ (.bool ((rd_T82 l0_0 x4_1).f2.f4))).setCell ⟨gb109, 7, none⟩ (.slice A108_7 ((rd_T82 l0_0 x4_1).f2.f5).length c108_7)) w.heap.size (fun k_ => (P0_0_ k_ ∨ w.heap.size ≤ k_) ∧ some k_ ≠ (u3 : Value).ownBlock ∧ k_ ≠ gb103 ∧ k_ ≠ gb104 ∧ k_ ≠ gb109) (.slice (some ad108) l0_0.length c0_0) l0_0) := ⟨by (with_reducible repeat (first | apply Kd.V_alloc | apply Kd.V_drewN | apply Kd.V_drew)); exact Kd.V_mono (Kd.V_far (p := ⟨gb109, 7, none⟩) (Kd.V_far (p := ⟨gb109, 6, none⟩) (Kd.V_far (p := ⟨gb109, 5, none⟩) (Kd.V_far (p := ⟨gb109, 4, none⟩) (Kd.V_far (p := ⟨gb109, 3, none⟩) (Kd.V_far (p := ⟨gb109, 2, none⟩) (Kd.V_far (p := ⟨gb109, 1, none⟩) (Kd.V_far (p := ⟨gb109, 0, none⟩) (Kd.V_mono HO_104000.out (fun k_ hk => (⟨hk, hk.2⟩ : _ ∧ k_ ≠ gb109))) (fun _ hk => hk.2) (.int .i64 ((rd_T82 l0_0 x4_1).f0))) (fun _ hk => hk.2) (.int .i64 ((rd_T82 l0_0 x4_1).f1))) (fun _ hk => hk.2) (.int .i64 ((rd_T82 l0_0 x4_1).f2.f0))) (fun _ hk => hk.2) (.int .i64 ((rd_T82 l0_0 x4_1).f2.f1))) (fun _ hk => hk.2) (.int .i64 ((rd_T82 l0_0 x4_1).f2.f2))) (fun _ hk => hk.2) (.int .i64 ((rd_T82 l0_0 x4_1).f2.f3))) (fun _ hk => hk.2) (.bool ((rd_T82 l0_0 x4_1).f2.f4))) (fun _ hk => hk.2) (.slice A108_7 ((rd_T82 l0_0 x4_1).f2.f5).length c108_7)) (fun _ hk => ⟨hk.1.1.1, ⟨hk.1.1.2.1, ⟨hk.1.1.2.2.1, ⟨hk.1.1.2.2.2, hk.1.2⟩⟩⟩⟩)⟩
      have n2_ : Aside0 (Kd.V (Kd.int .i64) 3 ((((((((w12.setCell ⟨gb109, 0, none⟩ (.int .i64 ((rd_T82 l0_0 x4_1).f0))).setCell ⟨gb109, 1, none⟩ (.int .i64 ((rd_T82 l0_0 x4_1).f1))).setCell ⟨gb109, 2, none⟩ (.int .i64 ((rd_T82 l0_0 x4_1).f2.f0))).setCell ⟨gb109, 3, none⟩ (.int .i64 ((rd_T82 l0_0 x4_1).f2.f1))).setCell ⟨gb109, 4, none⟩ (.int .i64 ((rd_T82 l0_0 x4_1).f2.f2))).setCell ⟨gb109, 5, none⟩ (.int .i64 ((rd_T82 l0_0 x4_1).f2.f3))).setCell ⟨gb109, 6, none⟩ (.bool ((rd_T82 l0_0 x4_1).f2.f4))).setCell ⟨gb109, 7, none⟩ (.slice A108_7 ((rd_T82 l0_0 x4_1).f2.f5).length c108_7)) w.heap.size (fun k_ => (P0_0_ k_ ∨ w.heap.size ≤ k_) ∧ some k_ ≠ (u3 : Value).ownBlock ∧ k_ ≠ gb103 ∧ k_ ≠ gb104 ∧ k_ ≠ gb109) (.slice A108_7 ((rd_T82 l0_0 x4_1).f2.f5).length c108_7) ((rd_T82 l0_0 x4_1).f2.f5)) := ⟨by (with_reducible repeat (first | apply Kd.V_alloc | apply Kd.V_drewN | apply Kd.V_drew)); exact Kd.V_mono (Kd.V_far (p := ⟨gb109, 7, none⟩) (Kd.V_far (p := ⟨gb109, 6, none⟩) (Kd.V_far (p := ⟨gb109, 5, none⟩) (Kd.V_far (p := ⟨gb109, 4, none⟩) (Kd.V_far (p := ⟨gb109, 3, none⟩) (Kd.V_far (p := ⟨gb109, 2, none⟩) (Kd.V_far (p := ⟨gb109, 1, none⟩) (Kd.V_far (p := ⟨gb109, 0, none⟩) (Kd.V_mono HL108_7.out (fun k_ hk => (⟨hk, hk.2⟩ : _ ∧ k_ ≠ gb109))) (fun _ hk => hk.2) (.int .i64 ((rd_T82 l0_0 x4_1).f0))) (fun _ hk => hk.2) (.int .i64 ((rd_T82 l0_0 x4_1).f1))) (fun _ hk => hk.2) (.int .i64 ((rd_T82 l0_0 x4_1).f2.f0))) (fun _ hk => hk.2) (.int .i64 ((rd_T82 l0_0 x4_1).f2.f1))) (fun _ hk => hk.2) (.int .i64 ((rd_T82 l0_0 x4_1).f2.f2))) (fun _ hk => hk.2) (.int .i64 ((rd_T82 l0_0 x4_1).f2.f3))) (fun _ hk => hk.2) (.bool ((rd_T82 l0_0 x4_1).f2.f4))) (fun _ hk => hk.2) (.slice A108_7 ((rd_T82 l0_0 x4_1).f2.f5).length c108_7)) (fun _ hk => ⟨hk.1.1.1, ⟨hk.1.1.2.1, ⟨hk.1.1.2.2.1, ⟨hk.1.1.2.2.2, hk.1.2⟩⟩⟩⟩)⟩
      have n3_ : Aside0 (((((((((w12.setCell ⟨gb109, 0, none⟩ (.int .i64 ((rd_T82 l0_0 x4_1).f0))).setCell ⟨gb109, 1, none⟩ (.int .i64 ((rd_T82 l0_0 x4_1).f1))).setCell ⟨gb109, 2, none⟩ (.int .i64 ((rd_T82 l0_0 x4_1).f2.f0))).setCell ⟨gb109, 3, none⟩ (.int .i64 ((rd_T82 l0_0 x4_1).f2.f1))).setCell ⟨gb109, 4, none⟩ (.int .i64 ((rd_T82 l0_0 x4_1).f2.f2))).setCell ⟨gb109, 5, none⟩ (.int .i64 ((rd_T82 l0_0 x4_1).f2.f3))).setCell ⟨gb109, 6, none⟩ (.bool ((rd_T82 l0_0 x4_1).f2.f4))).setCell ⟨gb109, 7, none⟩ (.slice A108_7 ((rd_T82 l0_0 x4_1).f2.f5).length c108_7)).heap[gb103]? = some (.cells #[.slice (some ad108) l0_0.length c0_0, .int .i64 a0_1, .int .i64 a0_2] 26 (0, 0))) := ⟨by (with_reducible repeat (first | refine blk_drewN ?_ _ | refine blk_drew ?_ | refine blk_alloc ?_ _)); refine blk_far ?_ NB103_109.out _; (with_reducible repeat (first | refine blk_drewN ?_ _ | refine blk_drew ?_ | refine blk_alloc ?_ _)); refine blk_far ?_ NB103_109.out _; (with_reducible repeat (first | refine blk_drewN ?_ _ | refine blk_drew ?_ | refine blk_alloc ?_ _)); refine blk_far ?_ NB103_109.out _; (with_reducible repeat (first | refine blk_drewN ?_ _ | refine blk_drew ?_ | refine blk_alloc ?_ _)); refine blk_far ?_ NB103_109.out _; (with_reducible repeat (first | refine blk_drewN ?_ _ | refine blk_drew ?_ | refine blk_alloc ?_ _)); refine blk_far ?_ NB103_109.out _; (with_reducible repeat (first | refine blk_drewN ?_ _ | refine blk_drew ?_ | refine blk_alloc ?_ _)); refine blk_far ?_ NB103_109.out _; (with_reducible repeat (first | refine blk_drewN ?_ _ | refine blk_drew ?_ | refine blk_alloc ?_ _)); refine blk_far ?_ NB103_109.out _; (with_reducible repeat (first | refine blk_drewN ?_ _ | refine blk_drew ?_ | refine blk_alloc ?_ _)); refine blk_far ?_ NB103_109.out _; (with_reducible repeat (first | refine blk_drewN ?_ _ | refine blk_drew ?_ | refine blk_alloc ?_ _)); exact BK103.out⟩
      have n4_ : Aside0 (((((((((w12.setCell ⟨gb109, 0, none⟩ (.int .i64 ((rd_T82 l0_0 x4_1).f0))).setCell ⟨gb109, 1, none⟩ (.int .i64 ((rd_T82 l0_0 x4_1).f1))).setCell ⟨gb109, 2, none⟩ (.int .i64 ((rd_T82 l0_0 x4_1).f2.f0))).setCell ⟨gb109, 3, none⟩ (.int .i64 ((rd_T82 l0_0 x4_1).f2.f1))).setCell ⟨gb109, 4, none⟩ (.int .i64 ((rd_T82 l0_0 x4_1).f2.f2))).setCell ⟨gb109, 5, none⟩ (.int .i64 ((rd_T82 l0_0 x4_1).f2.f3))).setCell ⟨gb109, 6, none⟩ (.bool ((rd_T82 l0_0 x4_1).f2.f4))).setCell ⟨gb109, 7, none⟩ (.slice A108_7 ((rd_T82 l0_0 x4_1).f2.f5).length c108_7)).heap[gb104]? = some (.cells #[.slice none 0 0, .int .i64 0, .int .i64 0] 37 (0, 0))) := ⟨by (with_reducible repeat (first | refine blk_drewN ?_ _ | refine blk_drew ?_ | refine blk_alloc ?_ _)); refine blk_far ?_ NB104_109.out _; (with_reducible repeat (first | refine blk_drewN ?_ _ | refine blk_drew ?_ | refine blk_alloc ?_ _)); refine blk_far ?_ NB104_109.out _; (with_reducible repeat (first | refine blk_drewN ?_ _ | refine blk_drew ?_ | refine blk_alloc ?_ _)); refine blk_far ?_ NB104_109.out _; (with_reducible repeat (first | refine blk_drewN ?_ _ | refine blk_drew ?_ | refine blk_alloc ?_ _)); refine blk_far ?_ NB104_109.out _; (with_reducible repeat (first | refine blk_drewN ?_ _ | refine blk_drew ?_ | refine blk_alloc ?_ _)); refine blk_far ?_ NB104_109.out _; (with_reducible repeat (first | refine blk_drewN ?_ _ | refine blk_drew ?_ | refine blk_alloc ?_ _)); refine blk_far ?_ NB104_109.out _; (with_reducible repeat (first | refine blk_drewN ?_ _ | refine blk_drew ?_ | refine blk_alloc ?_ _)); refine blk_far ?_ NB104_109.out _; (with_reducible repeat (first | refine blk_drewN ?_ _ | refine blk_drew ?_ | refine blk_alloc ?_ _)); refine blk_far ?_ NB104_109.out _; (with_reducible repeat (first | refine blk_drewN ?_ _ | refine blk_drew ?_ | refine blk_alloc ?_ _)); exact BK104.out⟩
      have n5_ : Aside0 (((((((((w12.setCell ⟨gb109, 0, none⟩ (.int .i64 ((rd_T82 l0_0 x4_1).f0))).setCell ⟨gb109, 1, none⟩ (.int .i64 ((rd_T82 l0_0 x4_1).f1))).setCell ⟨gb109, 2, none⟩ (.int .i64 ((rd_T82 l0_0 x4_1).f2.f0))).setCell ⟨gb109, 3, none⟩ (.int .i64 ((rd_T82 l0_0 x4_1).f2.f1))).setCell ⟨gb109, 4, none⟩ (.int .i64 ((rd_T82 l0_0 x4_1).f2.f2))).setCell ⟨gb109, 5, none⟩ (.int .i64 ((rd_T82 l0_0 x4_1).f2.f3))).setCell ⟨gb109, 6, none⟩ (.bool ((rd_T82 l0_0 x4_1).f2.f4))).setCell ⟨gb109, 7, none⟩ (.slice A108_7 ((rd_T82 l0_0 x4_1).f2.f5).length c108_7)).heap[gb109]? = some (.cells #[.int .i64 ((rd_T82 l0_0 x4_1).f0), .int .i64 ((rd_T82 l0_0 x4_1).f1), .int .i64 ((rd_T82 l0_0 x4_1).f2.f0), .int .i64 ((rd_T82 l0_0 x4_1).f2.f1), .int .i64 ((rd_T82 l0_0 x4_1).f2.f2), .int .i64 ((rd_T82 l0_0 x4_1).f2.f3), .bool ((rd_T82 l0_0 x4_1).f2.f4), .slice A108_7 ((rd_T82 l0_0 x4_1).f2.f5).length c108_7] 82 (0, 0))) := ⟨by (with_reducible repeat (first | refine blk_drewN ?_ _ | refine blk_drew ?_ | refine blk_alloc ?_ _)); refine blk_put (cs := #[.int .i64 ((rd_T82 l0_0 x4_1).f0), .int .i64 ((rd_T82 l0_0 x4_1).f1), .int .i64 ((rd_T82 l0_0 x4_1).f2.f0), .int .i64 ((rd_T82 l0_0 x4_1).f2.f1), .int .i64 ((rd_T82 l0_0 x4_1).f2.f2), .int .i64 ((rd_T82 l0_0 x4_1).f2.f3), .bool ((rd_T82 l0_0 x4_1).f2.f4), .slice none 0 0]) ?_ 7 _ rfl; (with_reducible repeat (first | refine blk_drewN ?_ _ | refine blk_drew ?_ | refine blk_alloc ?_ _)); refine blk_put (cs := #[.int .i64 ((rd_T82 l0_0 x4_1).f0), .int .i64 ((rd_T82 l0_0 x4_1).f1), .int .i64 ((rd_T82 l0_0 x4_1).f2.f0), .int .i64 ((rd_T82 l0_0 x4_1).f2.f1), .int .i64 ((rd_T82 l0_0 x4_1).f2.f2), .int .i64 ((rd_T82 l0_0 x4_1).f2.f3), .bool false, .slice none 0 0]) ?_ 6 _ rfl; (with_reducible repeat (first | refine blk_drewN ?_ _ | refine blk_drew ?_ | refine blk_alloc ?_ _)); refine blk_put (cs := #[.int .i64 ((rd_T82 l0_0 x4_1).f0), .int .i64 ((rd_T82 l0_0 x4_1).f1), .int .i64 ((rd_T82 l0_0 x4_1).f2.f0), .int .i64 ((rd_T82 l0_0 x4_1).f2.f1), .int .i64 ((rd_T82 l0_0 x4_1).f2.f2), .int .i64 0, .bool false, .slice none 0 0]) ?_ 5 _ rfl; (with_reducible repeat (first | refine blk_drewN ?_ _ | refine blk_drew ?_ | refine blk_alloc ?_ _)); refine blk_put (cs := #[.int .i64 ((rd_T82 l0_0 x4_1).f0), .int .i64 ((rd_T82 l0_0 x4_1).f1), .int .i64 ((rd_T82 l0_0 x4_1).f2.f0), .int .i64 ((rd_T82 l0_0 x4_1).f2.f1), .int .i64 0, .int .i64 0, .bool false, .slice none 0 0]) ?_ 4 _ rfl; (with_reducible repeat (first | refine blk_drewN ?_ _ | refine blk_drew ?_ | refine blk_alloc ?_ _)); refine blk_put (cs := #[.int .i64 ((rd_T82 l0_0 x4_1).f0), .int .i64 ((rd_T82 l0_0 x4_1).f1), .int .i64 ((rd_T82 l0_0 x4_1).f2.f0), .int .i64 0, .int .i64 0, .int .i64 0, .bool false, .slice none 0 0]) ?_ 3 _ rfl; (with_reducible repeat (first | refine blk_drewN ?_ _ | refine blk_drew ?_ | refine blk_alloc ?_ _)); refine blk_put (cs := #[.int .i64 ((rd_T82 l0_0 x4_1).f0), .int .i64 ((rd_T82 l0_0 x4_1).f1), .int .i64 0, .int .i64 0, .int .i64 0, .int .i64 0, .bool false, .slice none 0 0]) ?_ 2 _ rfl; (with_reducible repeat (first | refine blk_drewN ?_ _ | refine blk_drew ?_ | refine blk_alloc ?_ _)); refine blk_put (cs := #[.int .i64 ((rd_T82 l0_0 x4_1).f0), .int .i64 0, .int .i64 0, .int .i64 0, .int .i64 0, .int .i64 0, .bool false, .slice none 0 0]) ?_ 1 _ rfl; (with_reducible repeat (first | refine blk_drewN ?_ _ | refine blk_drew ?_ | refine blk_alloc ?_ _)); refine blk_put (cs := #[.int .i64 0, .int .i64 0, .int .i64 0, .int .i64 0, .int .i64 0, .int .i64 0, .bool false, .slice none 0 0]) ?_ 0 _ rfl; (with_reducible repeat (first | refine blk_drewN ?_ _ | refine blk_drew ?_ | refine blk_alloc ?_ _)); exact BK109.out⟩
      have n6_ : Aside0 (Below w.heap.size w ((((((((w12.setCell ⟨gb109, 0, none⟩ (.int .i64 ((rd_T82 l0_0 x4_1).f0))).setCell ⟨gb109, 1, none⟩ (.int .i64 ((rd_T82 l0_0 x4_1).f1))).setCell ⟨gb109, 2, none⟩ (.int .i64 ((rd_T82 l0_0 x4_1).f2.f0))).setCell ⟨gb109, 3, none⟩ (.int .i64 ((rd_T82 l0_0 x4_1).f2.f1))).setCell ⟨gb109, 4, none⟩ (.int .i64 ((rd_T82 l0_0 x4_1).f2.f2))).setCell ⟨gb109, 5, none⟩ (.int .i64 ((rd_T82 l0_0 x4_1).f2.f3))).setCell ⟨gb109, 6, none⟩ (.bool ((rd_T82 l0_0 x4_1).f2.f4))).setCell ⟨gb109, 7, none⟩ (.slice A108_7 ((rd_T82 l0_0 x4_1).f2.f5).length c108_7))) := ⟨by repeat (first | (with_reducible first | exact HB.out | apply below_alloc | apply pw_below_drewN | apply below_drew1 | refine below_set ?_ GE103.out | refine below_set ?_ GE104.out | refine below_set ?_ GE109.out) | exact HB.out)⟩
      (try clear HO_3)
      (try clear HO_104000)
      (try clear HL108_7)
      (try clear BK103)
      (try clear BK104)
      (try clear BK109)
      (try clear HB)
      generalize ((((((((w12.setCell ⟨gb109, 0, none⟩ (.int .i64 ((rd_T82 l0_0 x4_1).f0))).setCell ⟨gb109, 1, none⟩ (.int .i64 ((rd_T82 l0_0 x4_1).f1))).setCell ⟨gb109, 2, none⟩ (.int .i64 ((rd_T82 l0_0 x4_1).f2.f0))).setCell ⟨gb109, 3, none⟩ (.int .i64 ((rd_T82 l0_0 x4_1).f2.f1))).setCell ⟨gb109, 4, none⟩ (.int .i64 ((rd_T82 l0_0 x4_1).f2.f2))).setCell ⟨gb109, 5, none⟩ (.int .i64 ((rd_T82 l0_0 x4_1).f2.f3))).setCell ⟨gb109, 6, none⟩ (.bool ((rd_T82 l0_0 x4_1).f2.f4))).setCell ⟨gb109, 7, none⟩ (.slice A108_7 ((rd_T82 l0_0 x4_1).f2.f5).length c108_7)) = w16 at n0_ n1_ n2_ n3_ n4_ n5_ n6_ ⊢
      have HO_3 := n0_
      have HO_104000 := n1_
      have HL108_7 := n2_
      have BK103 := n3_
      have BK104 := n4_
      have BK109 := n5_
      have HB := n6_
      clear n0_ n1_ n2_ n3_ n4_ n5_ n6_
      have n0_ := Aside0.mk (Kd.N_drew HO_3.out)
      have n1_ := Aside0.mk (Kd.V_drew HO_104000.out)
      have n2_ := Aside0.mk (Kd.V_drew HL108_7.out)
      have n3_ := Aside0.mk (blk_drew BK103.out)
      have n4_ := Aside0.mk (blk_drew BK104.out)
      have n5_ := Aside0.mk (blk_drew BK109.out)
      have n6_ := Aside0.mk (below_drew1 HB.out)
      clear HO_3
      clear HO_104000
      clear HL108_7
      clear BK103
      clear BK104
      clear BK109
      clear HB
      have HO_3 := n0_
      have HO_104000 := n1_
      have HL108_7 := n2_
      have BK103 := n3_
      have BK104 := n4_
      have BK109 := n5_
      have HB := n6_
      clear n0_ n1_ n2_ n3_ n4_ n5_ n6_
      refine start_ (n := 12) (S := fun w' => w'.cell? ⟨gb109, 0, none⟩ = some (.int .i64 ((rd_T82 l0_0 x4_1).f0)) ∧ w'.cell? ⟨gb109, 1, none⟩ = some (.int .i64 ((rd_T82 l0_0 x4_1).f1)) ∧ w'.cell? ⟨gb109, 2, none⟩ = some (.int .i64 ((rd_T82 l0_0 x4_1).f2.f0)) ∧ w'.cell? ⟨gb109, 3, none⟩ = some (.int .i64 ((rd_T82 l0_0 x4_1).f2.f1)) ∧ w'.cell? ⟨gb109, 4, none⟩ = some (.int .i64 ((rd_T82 l0_0 x4_1).f2.f2)) ∧ w'.cell? ⟨gb109, 5, none⟩ = some (.int .i64 ((rd_T82 l0_0 x4_1).f2.f3)) ∧ w'.cell? ⟨gb109, 6, none⟩ = some (.bool ((rd_T82 l0_0 x4_1).f2.f4)) ∧ w'.cell? ⟨gb109, 7, none⟩ = some (.slice A108_7 ((rd_T82 l0_0 x4_1).f2.f5).length c108_7)) (ds := []) (bA 12 0) (by kernel_rfl) rfl rfl ⟨(blk_cell BK109.out 0).trans rfl, (blk_cell BK109.out 1).trans rfl, (blk_cell BK109.out 2).trans rfl, (blk_cell BK109.out 3).trans rfl, (blk_cell BK109.out 4).trans rfl, (blk_cell BK109.out 5).trans rfl, (blk_cell BK109.out 6).trans rfl, (blk_cell BK109.out 7).trans rfl⟩ (fun hHeld => ?_); refine with_tabW mortmainlaw06_its.tab6 mortmainlaw06_its.bits6 (fun HT_ HW_ => ?_)
      generalize w16.drew = w17 at HO_3 HO_104000 HL108_7 BK103 BK104 BK109 HB hHeld ⊢
      refine pure_ (i := 0) (N := some 21) (v := ?_) (a' := ?_) (bA 12 1) rfl rfl (an_ HT_.out) (fun _ _ _ h => h) (Or.inl ⟨by rfl, ?_⟩) ?_ ?_
      rotate_left
      ·intro w'
       go_simp
       with_reducible rfl
      rotate_left
      ·simp only [Act.put, q1, q2, q3, i64_w, i32_w]
       rfl
      refine pure_ (i := 1) (N := some 22) (v := ?_) (a' := ?_) (bA 12 3) rfl rfl (an_ HT_.out) (fun _ _ _ h => h) (Or.inl ⟨by rfl, ?_⟩) ?_ ?_
      rotate_left
      ·intro w'
       go_simp
       with_reducible rfl
      rotate_left
      ·simp only [Act.put, q1, q2, q3, i64_w, i32_w]
       rfl
      refine pure_ (i := 3) (N := some 24) (v := ?_) (a' := ?_) (bA 12 11) rfl rfl (an_ HT_.out) (fun _ _ _ h => h) (Or.inl ⟨by rfl, ?_⟩) ?_ ?_
      rotate_left
      ·intro w'
       go_simp
       with_reducible rfl
      rotate_left
      ·simp only [Act.put, q1, q2, q3, i64_w, i32_w]
       rfl
      refine pure_ (i := 5) (N := some 26) (v := ?_) (a' := ?_) (bA 12 43) rfl rfl (an_ HT_.out) (fun _ _ _ h => h) (Or.inl ⟨by rfl, ?_⟩) ?_ ?_
      rotate_left
      ·intro w'
       go_simp
       with_reducible rfl
      rotate_left
      ·simp only [Act.put, q1, q2, q3, i64_w, i32_w]
       rfl
      refine take_ (i := 2) (N := some 23) (v := ?_) (a' := ?_) (bA 12 47) rfl rfl (tw_ HT_.out HW_.out) (fun _ _ _ h => h) (Or.inl ⟨by rfl, ?_⟩) hHeld ?_ ?_
      rotate_left
      ·rintro w' ⟨s0, s1, s2, s3, s4, s5, s6, s7⟩
       go_simp
       with_reducible rfl
      rotate_left
      ·simp only [Act.put, q1, q2, q3, i64_w, i32_w]
       rfl
      refine take_ (i := 4) (N := some 25) (v := ?_) (a' := ?_) (bA 12 63) rfl rfl (tw_ HT_.out HW_.out) (fun _ _ _ h => h) (Or.inl ⟨by rfl, ?_⟩) hHeld ?_ ?_
      rotate_left
      ·rintro w' ⟨s0, s1, s2, s3, s4, s5, s6, s7⟩
       go_simp
       with_reducible rfl
      rotate_left
      ·simp only [Act.put, q1, q2, q3, i64_w, i32_w]
       rfl
      refine take_ (i := 6) (N := some 27) (v := ?_) (a' := ?_) (bA 12 127) rfl rfl (tw_ HT_.out HW_.out) (fun _ _ _ h => h) (Or.inl ⟨by rfl, ?_⟩) hHeld ?_ ?_
      rotate_left
      ·rintro w' ⟨s0, s1, s2, s3, s4, s5, s6, s7⟩
       go_simp
       with_reducible rfl
      rotate_left
      ·simp only [Act.put, q1, q2, q3, i64_w, i32_w]
       rfl
      refine one_ (i := 7) (N := some 28) (bA 12 255) rfl rfl (one_of HT_.out (by kernel_rfl)) (by decide) (fun K hK => ?_)
      refine goes_ Try.func20 (by kernel_rfl) rfl #[.agg #[.int .i64 ((rd_T82 l0_0 x4_1).f2.f0), .int .i64 ((rd_T82 l0_0 x4_1).f2.f1), .int .i64 ((rd_T82 l0_0 x4_1).f2.f2), .int .i64 ((rd_T82 l0_0 x4_1).f2.f3), .bool ((rd_T82 l0_0 x4_1).f2.f4), .slice A108_7 ((rd_T82 l0_0 x4_1).f2.f5).length c108_7]] (by rfl) rfl rfl mT ?_
      with_reducible refine (mortmainlaw06_obj.calls ((rd_T82 l0_0 x4_1).f2.f0) ((rd_T82 l0_0 x4_1).f2.f1) ((rd_T82 l0_0 x4_1).f2.f2) ((rd_T82 l0_0 x4_1).f2.f3) ((rd_T82 l0_0 x4_1).f2.f4) (fun k_ => ((P0_0_ k_ ∨ w.heap.size ≤ k_) ∧ (some k_ ≠ (u3 : Value).ownBlock ∧ (k_ ≠ gb103 ∧ (k_ ≠ gb104 ∧ k_ ≠ gb109))))) _ _ ((rd_T82 l0_0 x4_1).f2.f5) t110 t111 t112 t113 t114 t115 _ ?side1 A8.out).mono ?_
      (case side1 => exact HL108_7.out)
      rintro e w18 ⟨v116, rfl, ho0, hb⟩
      refine ⟨_, rfl, ?_⟩
      have n0_ := Aside0.mk (Kd.N_below (by (with_reducible repeat (first | apply Kd.N_alloc | apply Kd.N_drewN | apply Kd.N_drew)); exact HO_3.out) hb)
      have n1_ := Aside0.mk (Kd.V_below (by (with_reducible repeat (first | apply Kd.V_alloc | apply Kd.V_drewN | apply Kd.V_drew)); exact HO_104000.out) hb)
      have n2_ := Aside0.mk (Kd.V_below (by (with_reducible repeat (first | apply Kd.V_alloc | apply Kd.V_drewN | apply Kd.V_drew)); exact HL108_7.out) hb)
      have n3_ := Aside0.mk (Kd.V_lower (Kd.V_mono (ok' := fun k_ => (P0_0_ k_ ∨ w.heap.size ≤ k_) ∧ some k_ ≠ (u3 : Value).ownBlock ∧ k_ ≠ gb103 ∧ k_ ≠ gb104 ∧ k_ ≠ gb109) ho0 (fun k_ hk_ => ⟨Or.elim hk_ (fun hs_ => hs_.1) (fun hn_ => (.inr (Nat.le_trans (below_size (bI GE103.out GE104.out GE109.out)) hn_))), Or.elim hk_ (fun hs_ => hs_.2.1) (fun hn_ => (Kd.fresh' (Kd.N_lt (by (with_reducible repeat (first | apply Kd.N_alloc | apply Kd.N_drewN | apply Kd.N_drew)); exact HO_3.out)) k_ hn_)), Or.elim hk_ (fun hs_ => hs_.2.2.1) (fun hn_ => (Kd.freshB (g := gb103) (o := .cells #[.slice (some ad108) l0_0.length c0_0, .int .i64 a0_1, .int .i64 a0_2] 26 (0, 0)) (kT BK103.out) k_ hn_)), Or.elim hk_ (fun hs_ => hs_.2.2.2.1) (fun hn_ => (Kd.freshB (g := gb104) (o := .cells #[.slice none 0 0, .int .i64 0, .int .i64 0] 37 (0, 0)) (kT BK104.out) k_ hn_)), Or.elim hk_ (fun hs_ => hs_.2.2.2.2) (fun hn_ => (Kd.freshB (g := gb109) (o := .cells #[.int .i64 ((rd_T82 l0_0 x4_1).f0), .int .i64 ((rd_T82 l0_0 x4_1).f1), .int .i64 ((rd_T82 l0_0 x4_1).f2.f0), .int .i64 ((rd_T82 l0_0 x4_1).f2.f1), .int .i64 ((rd_T82 l0_0 x4_1).f2.f2), .int .i64 ((rd_T82 l0_0 x4_1).f2.f3), .bool ((rd_T82 l0_0 x4_1).f2.f4), .slice A108_7 ((rd_T82 l0_0 x4_1).f2.f5).length c108_7] 82 (0, 0)) (kT BK109.out) k_ hn_))⟩)) (below_size (bI GE103.out GE104.out GE109.out)))
      have n4_ := Aside0.mk (blk_below (g := gb103) (o := .cells #[.slice (some ad108) l0_0.length c0_0, .int .i64 a0_1, .int .i64 a0_2] 26 (0, 0)) (kT BK103.out) hb)
      have n5_ := Aside0.mk (blk_below (g := gb104) (o := .cells #[.slice none 0 0, .int .i64 0, .int .i64 0] 37 (0, 0)) (kT BK104.out) hb)
      have n6_ := Aside0.mk (blk_below (g := gb109) (o := .cells #[.int .i64 ((rd_T82 l0_0 x4_1).f0), .int .i64 ((rd_T82 l0_0 x4_1).f1), .int .i64 ((rd_T82 l0_0 x4_1).f2.f0), .int .i64 ((rd_T82 l0_0 x4_1).f2.f1), .int .i64 ((rd_T82 l0_0 x4_1).f2.f2), .int .i64 ((rd_T82 l0_0 x4_1).f2.f3), .bool ((rd_T82 l0_0 x4_1).f2.f4), .slice A108_7 ((rd_T82 l0_0 x4_1).f2.f5).length c108_7] 82 (0, 0)) (kT BK109.out) hb)
      have n7_ := Aside0.mk (below_step (bI GE103.out GE104.out GE109.out) hb)
      clear HO_3
      clear HO_104000
      clear HL108_7
      clear BK103
      clear BK104
      clear BK109
      clear HB
      have HO_3 := n0_
      have HO_104000 := n1_
      have HL108_7 := n2_
      have HO117 := n3_
      have BK103 := n4_
      have BK104 := n5_
      have BK109 := n6_
      have HB := n7_
      clear n0_ n1_ n2_ n3_ n4_ n5_ n6_ n7_
      (try clear hb)
      (try clear hb2)
      (try clear hk)
      (try clear hi)
      (try clear ho0)
      obtain ⟨Ao19, co19, eo19⟩ := Kd.V_slice HO117.out
      (first | subst eo19 | (injection eo19 with f1_ f2_ f3_; have f4_ := f1_.symm; have f5_ := f3_.symm; clear f1_ f2_ f3_; subst f4_; subst f5_))
      refine hK.out _ _ ⟨(blk_cell BK109.out 0).trans rfl, (blk_cell BK109.out 1).trans rfl, (blk_cell BK109.out 2).trans rfl, (blk_cell BK109.out 3).trans rfl, (blk_cell BK109.out 4).trans rfl, (blk_cell BK109.out 5).trans rfl, (blk_cell BK109.out 6).trans rfl, (blk_cell BK109.out 7).trans rfl⟩ (fun hHeld => ?_)
      clear hK K
      refine norm_ (a' := ?_) ?_ ?_
      rotate_left
      ·show Act.put _ (some 28) _ = _
       simp only [Act.put, q1, q2, q3, i64_w, i32_w]
       rfl
      refine pure_ (i := 8) (N := some 29) (v := ?_) (a' := ?_) (bA 12 511) rfl rfl (an_ HT_.out) (fun _ _ _ h => h) (Or.inl ⟨by rfl, ?_⟩) ?_ ?_
      rotate_left
      ·intro w'
       go_simp
       with_reducible rfl
      rotate_left
      ·simp only [Act.put, q1, q2, q3, i64_w, i32_w]
       rfl
      refine one_ (i := 9) (N := some 30) (bA 12 1023) rfl rfl (one_of HT_.out (by kernel_rfl)) (by decide) (fun K hK => ?_)
      refine value_ (w1 := ?_) (v := ?_) (by rfl) rfl ?_ ?_
      rotate_left 2
      ·go_simp
       constructor
       ·rfl
       ·rfl
      refine hK.out _ _ ⟨(blk_cell (blk_alloc BK109.out _) 0).trans rfl, (blk_cell (blk_alloc BK109.out _) 1).trans rfl, (blk_cell (blk_alloc BK109.out _) 2).trans rfl, (blk_cell (blk_alloc BK109.out _) 3).trans rfl, (blk_cell (blk_alloc BK109.out _) 4).trans rfl, (blk_cell (blk_alloc BK109.out _) 5).trans rfl, (blk_cell (blk_alloc BK109.out _) 6).trans rfl, (blk_cell (blk_alloc BK109.out _) 7).trans rfl⟩ (fun hHeld => ?_)
      clear hK K
      refine norm_ (a' := ?_) ?_ ?_
      rotate_left
      ·show Act.put _ (some 30) _ = _
       simp only [Act.put, q1, q2, q3, i64_w, i32_w]
       rfl
      refine one_ (i := 10) (N := some 31) (bA 12 2047) rfl rfl (one_of HT_.out (by kernel_rfl)) (by decide) (fun K hK => ?_)
      refine Kd.N_append_step k84 (w0 := w) w.heap.size (by rfl) (.tmp 21) (.tmp 30) 35 84 (.agg #[(.int .i64 0), (.int .i64 0), (.int .i64 0), (.int .i64 0), (.int .i64 0), (.int .i64 0), (.bool false), (.slice none 0 0)]) 80 rfl Try.underlying35 info84 rfl (by decide) (by omega) u3 x3_1 (⟨(rd_T82 l0_0 x4_1).f0, (rd_T82 l0_0 x4_1).f1, (⟨t110, t111, t112, t113, t114, t115⟩ : S41)⟩ : S84) [.int .i64 ((rd_T82 l0_0 x4_1).f0), .int .i64 ((rd_T82 l0_0 x4_1).f1), .int .i64 t110, .int .i64 t111, .int .i64 t112, .int .i64 t113, .bool t114, .slice Ao19 t115.length co19] (fun k_ => (P0_0_ k_ ∨ w.heap.size ≤ k_) ∧ k_ ≠ gb103 ∧ k_ ≠ gb104 ∧ k_ ≠ gb109) (fun k_ => ((fun k_ => (P0_0_ k_ ∨ w.heap.size ≤ k_) ∧ k_ ≠ gb103 ∧ k_ ≠ gb104 ∧ k_ ≠ gb109)) k_ ∧ some k_ ≠ (u3 : Value).ownBlock) rfl rfl ?aP (fun _ hk => hk) ?aF ?aO ?aB ?aS ?aL ?_
      (case aP => exact (k84_mkF _ _ (⟨(rd_T82 l0_0 x4_1).f0, (rd_T82 l0_0 x4_1).f1, (⟨t110, t111, t112, t113, t114, t115⟩ : S41)⟩ : S84) (Kd.V_reads' (Kd.V_mono (ok' := (fun k_ => ((fun k_ => (P0_0_ k_ ∨ w.heap.size ≤ k_) ∧ k_ ≠ gb103 ∧ k_ ≠ gb104 ∧ k_ ≠ gb109)) k_ ∧ some k_ ≠ (u3 : Value).ownBlock)) (HO117.out) (fun k_ hk => ⟨⟨hk.1, ⟨hk.2.2.1, ⟨hk.2.2.2.1, hk.2.2.2.2⟩⟩⟩, hk.2.1⟩))).2.1 (Kd.V_F (Kd.V_mono (ok' := (fun k_ => ((fun k_ => (P0_0_ k_ ∨ w.heap.size ≤ k_) ∧ k_ ≠ gb103 ∧ k_ ≠ gb104 ∧ k_ ≠ gb109)) k_ ∧ some k_ ≠ (u3 : Value).ownBlock)) (HO117.out) (fun k_ hk => ⟨⟨hk.1, ⟨hk.2.2.1, ⟨hk.2.2.2.1, hk.2.2.2.2⟩⟩⟩, hk.2.1⟩)))))
      (case aB => exact (bI GE103.out GE104.out GE109.out))
      (case aF => exact (fun k_ hk => ⟨(.inr (Nat.le_trans (below_size (bI GE103.out GE104.out GE109.out)) hk)), Kd.freshB (g := gb103) (o := .cells #[.slice (some ad108) l0_0.length c0_0, .int .i64 a0_1, .int .i64 a0_2] 26 (0, 0)) (kT BK103.out) k_ hk, Kd.freshB (g := gb104) (o := .cells #[.slice none 0 0, .int .i64 0, .int .i64 0] 37 (0, 0)) (kT BK104.out) k_ hk, Kd.freshB (g := gb109) (o := .cells #[.int .i64 ((rd_T82 l0_0 x4_1).f0), .int .i64 ((rd_T82 l0_0 x4_1).f1), .int .i64 ((rd_T82 l0_0 x4_1).f2.f0), .int .i64 ((rd_T82 l0_0 x4_1).f2.f1), .int .i64 ((rd_T82 l0_0 x4_1).f2.f2), .int .i64 ((rd_T82 l0_0 x4_1).f2.f3), .bool ((rd_T82 l0_0 x4_1).f2.f4), .slice A108_7 ((rd_T82 l0_0 x4_1).f2.f5).length c108_7] 82 (0, 0)) (kT BK109.out) k_ hk⟩))
      (case aO => exact (by (with_reducible repeat (first | apply Kd.N_alloc | apply Kd.N_drewN | apply Kd.N_drew)); exact HO_3.out))
      (case aS => exact (below_size (bI GE103.out GE104.out GE109.out)))
      (case aL => have := LMc9.out; omega)
      intro v119 w20 ho hb hg hat
      rw [← Ny118.out] at ho
      have n0_ := Aside0.mk (Kd.V_afterv (ok := (fun k_ => (P0_0_ k_ ∨ w.heap.size ≤ k_) ∧ k_ ≠ gb103 ∧ k_ ≠ gb104 ∧ k_ ≠ gb109)) (by (with_reducible repeat (first | apply Kd.V_alloc | apply Kd.V_drewN | apply Kd.V_drew)); exact Kd.V_mono HO_104000.out (fun _ hk => ⟨⟨hk.1, ⟨hk.2.2.1, ⟨hk.2.2.2.1, hk.2.2.2.2⟩⟩⟩, hk.2.1⟩)) hg hat)
      have n1_ := Aside0.mk (blk_grown (g := gb103) (o := .cells #[.slice (some ad108) l0_0.length c0_0, .int .i64 a0_1, .int .i64 a0_2] 26 (0, 0)) (kT BK103.out) hg (Kd.N_ne HO_3.out BK103.out (by decide)))
      have n2_ := Aside0.mk (blk_grown (g := gb104) (o := .cells #[.slice none 0 0, .int .i64 0, .int .i64 0] 37 (0, 0)) (kT BK104.out) hg (Kd.N_ne HO_3.out BK104.out (by decide)))
      have n3_ := Aside0.mk (Kd.V_afterv (ok := (fun k_ => (P0_0_ k_ ∨ w.heap.size ≤ k_) ∧ k_ ≠ gb103 ∧ k_ ≠ gb104 ∧ k_ ≠ gb109)) (by (with_reducible repeat (first | apply Kd.V_alloc | apply Kd.V_drewN | apply Kd.V_drew)); exact Kd.V_mono HL108_7.out (fun _ hk => ⟨⟨hk.1, ⟨hk.2.2.1, ⟨hk.2.2.2.1, hk.2.2.2.2⟩⟩⟩, hk.2.1⟩)) hg hat)
      have n4_ := Aside0.mk (blk_grown (g := gb109) (o := .cells #[.int .i64 ((rd_T82 l0_0 x4_1).f0), .int .i64 ((rd_T82 l0_0 x4_1).f1), .int .i64 ((rd_T82 l0_0 x4_1).f2.f0), .int .i64 ((rd_T82 l0_0 x4_1).f2.f1), .int .i64 ((rd_T82 l0_0 x4_1).f2.f2), .int .i64 ((rd_T82 l0_0 x4_1).f2.f3), .bool ((rd_T82 l0_0 x4_1).f2.f4), .slice A108_7 ((rd_T82 l0_0 x4_1).f2.f5).length c108_7] 82 (0, 0)) (kT BK109.out) hg (Kd.N_ne HO_3.out BK109.out (by decide)))
      have n5_ := Aside0.mk (Kd.V_afterv (ok := (fun k_ => (P0_0_ k_ ∨ w.heap.size ≤ k_) ∧ k_ ≠ gb103 ∧ k_ ≠ gb104 ∧ k_ ≠ gb109)) (by (with_reducible repeat (first | apply Kd.V_alloc | apply Kd.V_drewN | apply Kd.V_drew)); exact Kd.V_mono HO117.out (fun _ hk => ⟨⟨hk.1, ⟨hk.2.2.1, ⟨hk.2.2.2.1, hk.2.2.2.2⟩⟩⟩, hk.2.1⟩)) hg hat)
      have n6_ := Aside0.mk (hb)
      have n7_ := Aside0.mk (ho)
      clear HO_104000
      clear BK103
      clear BK104
      clear HL108_7
      clear BK109
      clear HO117
      clear HB
      clear HO_3
      have HO_104000 := n0_
      have BK103 := n1_
      have BK104 := n2_
      have HL108_7 := n3_
      have BK109 := n4_
      have HO117 := n5_
      have HB := n6_
      have HO120 := n7_
      clear n0_ n1_ n2_ n3_ n4_ n5_ n6_ n7_
      clear ho hb hg hat
      refine hK.out _ _ ⟨(blk_cell BK109.out 0).trans rfl, (blk_cell BK109.out 1).trans rfl, (blk_cell BK109.out 2).trans rfl, (blk_cell BK109.out 3).trans rfl, (blk_cell BK109.out 4).trans rfl, (blk_cell BK109.out 5).trans rfl, (blk_cell BK109.out 6).trans rfl, (blk_cell BK109.out 7).trans rfl⟩ (fun hHeld => ?_)
      clear hK K
      refine norm_ (a' := ?_) ?_ ?_
      rotate_left
      ·show Act.put _ (some 31) _ = _
       simp only [Act.put, q1, q2, q3, i64_w, i32_w]
       rfl
      refine pure_ (i := 11) (N := some 3) (v := ?_) (a' := ?_) (bA 12 4095) rfl rfl (an_ HT_.out) (fun _ _ _ h => h) (Or.inl ⟨by rfl, ?_⟩) ?_ ?_
      rotate_left
      ·intro w'
       go_simp
       with_reducible rfl
      rotate_left
      ·simp only [Act.put, q1, q2, q3, i64_w, i32_w]
       rfl
      refine done_ (done_of HT_.out (by kernel_rfl)) ?_
      try go_wp2
      go_roundg k1
      case measure => have := HK1.out; omega
      case rel => exact ⟨(y118), (wrap64 (x4_1 + 1)), (by first | rfl | (simp; done) | (simp [*]; done)), H', ⟨by have := HK1.out; omega⟩, ⟨by (with_reducible repeat (first | apply Kd.N_alloc | apply Kd.N_drewN | apply Kd.N_drew)); exact Kd.N_mono HO120.out (fun _ hk => ⟨hk.1, ⟨hk.2.1, hk.2.2.1⟩⟩)⟩, ⟨by (with_reducible repeat (first | apply Kd.V_alloc | apply Kd.V_drewN | apply Kd.V_drew)); exact Kd.V_mono HO_104000.out (fun _ hk => ⟨hk.1.1, ⟨hk.2, ⟨hk.1.2.1, hk.1.2.2.1⟩⟩⟩)⟩, ⟨by (with_reducible repeat (first | refine blk_drewN ?_ _ | refine blk_drew ?_ | refine blk_alloc ?_ _)); exact BK103.out⟩, ⟨by (with_reducible repeat (first | refine blk_drewN ?_ _ | refine blk_drew ?_ | refine blk_alloc ?_ _)); exact BK104.out⟩, ⟨by repeat (first | (with_reducible first | exact HB.out | apply below_alloc | apply pw_below_drewN | apply below_drew1 | refine below_set ?_ GE103.out | refine below_set ?_ GE104.out | refine below_set ?_ GE109.out) | exact HB.out)⟩⟩
     ·rw [if_neg c9] at H
      exact absurd H (by simp)
    ·rw [if_neg c7] at H
     exact absurd H (by simp)
   ·rw [if_neg c6] at H
    have c6b0 : decide (x4_1 < (l0_0.length : Int)) = false := decide_eq_false c6
    clear c6
    simp only [Option.some.injEq, Prod.mk.injEq] at H
    obtain ⟨rfl, rfl, rfl⟩ := H
    have hnb21 := NB103_104.out
    have hnc21 := NB104_103.out
    have hcz22_0 : wr.cell? ⟨gb103, 0, none⟩ = some (.slice A0_0 l0_0.length c0_0) := (blk_cell BK103.out 0).trans rfl
    have hcz22_1 : wr.cell? ⟨gb103, 1, none⟩ = some (.int .i64 a0_1) := (blk_cell BK103.out 1).trans rfl
    have hcz22_2 : wr.cell? ⟨gb103, 2, none⟩ = some (.int .i64 a0_2) := (blk_cell BK103.out 2).trans rfl
    have hfz22_0 := blk_frozen BK103.out 0
    have hfz22_1 := blk_frozen BK103.out 1
    have hfz22_2 := blk_frozen BK103.out 2
    obtain ⟨Ao23, co23, eo23⟩ := Kd.N_slice HO_3.out
    subst eo23
    have hcz24_0 : wr.cell? ⟨gb104, 0, none⟩ = some (.slice none 0 0) := (blk_cell BK104.out 0).trans rfl
    have hcz24_1 : wr.cell? ⟨gb104, 1, none⟩ = some (.int .i64 0) := (blk_cell BK104.out 1).trans rfl
    have hcz24_2 : wr.cell? ⟨gb104, 2, none⟩ = some (.int .i64 0) := (blk_cell BK104.out 2).trans rfl
    have hfz24_0 := blk_frozen BK104.out 0
    have hfz24_1 := blk_frozen BK104.out 1
    have hfz24_2 := blk_frozen BK104.out 2
    go_wp2
    refine bodyPost_ret (results_cell_row rfl _ _ gb104 37 #[.slice Ao23 x3_1.length co23, .int .i64 a0_1, .int .i64 a0_2] (0, 0) _ rfl (by (with_reducible repeat (first | refine blk_drewN ?_ _ | refine blk_drew ?_ | refine blk_alloc ?_ _)); refine blk_put (cs := #[.slice Ao23 x3_1.length co23, .int .i64 a0_1, .int .i64 0]) ?_ 2 _ rfl; (with_reducible repeat (first | refine blk_drewN ?_ _ | refine blk_drew ?_ | refine blk_alloc ?_ _)); refine blk_put (cs := #[.slice Ao23 x3_1.length co23, .int .i64 0, .int .i64 0]) ?_ 1 _ rfl; (with_reducible repeat (first | refine blk_drewN ?_ _ | refine blk_drew ?_ | refine blk_alloc ?_ _)); refine blk_put (cs := #[.slice none 0 0, .int .i64 0, .int .i64 0]) ?_ 0 _ rfl; (with_reducible repeat (first | refine blk_drewN ?_ _ | refine blk_drew ?_ | refine blk_alloc ?_ _)); exact BK104.out) Try.underlying37 rfl (by kernel_rfl)) rfl ?_
    exact ⟨_, by first | rfl | (simp [errW_none, errW_some] <;> rfl) | (simp [*, errW_none, errW_some] <;> rfl), by (with_reducible repeat (first | apply Kd.N_alloc | apply Kd.N_drewN | apply Kd.N_drew)); exact Kd.N_mono (Kd.N_far (p := ⟨gb104, 2, none⟩) (Kd.N_far (p := ⟨gb104, 1, none⟩) (Kd.N_far (p := ⟨gb104, 0, none⟩) (Kd.N_mono HO_3.out (fun k_ hk => (⟨hk, hk.2.2⟩ : _ ∧ k_ ≠ gb104))) (fun _ hk => hk.2) (.slice Ao23 x3_1.length co23)) (fun _ hk => hk.2) (.int .i64 a0_1)) (fun _ hk => hk.2) (.int .i64 a0_2)) (fun _ hk => hk.1.1), by repeat (first | (with_reducible first | exact HB.out | apply below_alloc | apply pw_below_drewN | apply below_drew1 | refine below_set ?_ GE103.out | refine below_set ?_ GE104.out) | exact HB.out)⟩
end Go.Proofs.Ytkmjboeabmmecaa.MAll
