/- The functions that the law reaches in plain Lean, and that the calls come to what these say. No condition. (By wip/myprint.py, this session's program over the kit's print.) -/
import Derived.Test.YtpilkkedejcjaaaMTaskTurnsx0
namespace Go.Proofs.Ytpilkkedejcjaaa.MTaskTurns
open Go.RowKit Go.Proofs.YtpilkkedejcjaaaW.PrintWords Go.Proofs.YtpilkkedejcjaaaW.PrintLast Go.Proofs.YtpilkkedejcjaaaW.PrintMore
attribute [local go_sem] max2_int min2_int max_two min_two max_three min_three max_four min_four   -- for this text's walks alone
set_option linter.unusedVariables false
set_option linter.unusedSimpArgs false

/-! ### task_Task_14: function 14 -/
def task_Task_14.f (a0 : Int) : Option ((List (S31)) × Int) := some (([] : List (S31)), a0)
set_option maxHeartbeats 8000000 in
set_option maxRecDepth 100000 in
theorem task_Task_14.calls (a0 : Int) (r1 : List (S31)) (r2 : Int) (w : World) (h : task_Task_14.f a0 = some (r1, r2)) :
    Calls Try.prog 14 #[.int .i64 a0] w fun e w' => ∃ v0_ : Value, e = .returned (.agg #[v0_, .int .i64 r2]) ∧ Kd.R k31 31 w' w.heap.size (fun _ => True) v0_ r1 ∧ Below w.heap.size w w' := by
  have hu25 := Try.underlying25
  have HB := Aside0.mk (Below.refl w.heap.size w)
  have H : (some (([] : List (S31)), a0)) = some (r1, r2) := h
  clear h
  simp only [Option.some.injEq, Prod.mk.injEq] at H
  obtain ⟨rfl, rfl⟩ := H
  go_enter Try.func14, Try.ntmps14
  go_wp2_with (first | ((with_reducible refine gate_dst (N := 2) rfl ?_); refine box_event ?hg (N := 2) ?hd (cs := #[.slice none 0 0, .int .i64 0]) (t := 25) ?hr ?_; (case hd => rfl); (case hg => rfl); (case hr => first | (go_simp; done) | (go_simp; rfl)); intro gb101 hg w2 hbox hb; have n0_ := Aside0.mk (below_step (by repeat (first | (with_reducible first | exact HB.out | apply below_alloc | apply pw_below_drewN | apply below_drew1) | exact HB.out)) hb); have n1_ := Aside0.mk (hbox); have n2_ := Aside0.mk ((by rw [hg]; exact (below_size (by repeat (first | (with_reducible first | exact HB.out | apply below_alloc | apply pw_below_drewN | apply below_drew1) | exact HB.out))) : w.heap.size ≤ gb101)); have n3_ := Aside0.mk ((by rw [hg]; exact (below_size (by repeat (first | (with_reducible first | exact HB.out | apply below_alloc | apply pw_below_drewN | apply below_drew1) | exact HB.out))) : w.heap.size ≤ gb101)); clear HB; have HB := n0_; have BK101 := n1_; have GW101 := n2_; have GE101 := n3_; clear n0_ n1_ n2_ n3_; clear hb hbox hg; have hcz3_0 : w2.cell? ⟨gb101, 0, none⟩ = some (.slice none 0 0) := (blk_cell BK101.out 0).trans rfl; have hcz3_1 : w2.cell? ⟨gb101, 1, none⟩ = some (.int .i64 0) := (blk_cell BK101.out 1).trans rfl; have hfz3_0 := blk_frozen BK101.out 0; have hfz3_1 := blk_frozen BK101.out 1))
  refine bodyPost_ret (results_cell_row rfl _ _ gb101 25 #[.slice none 0 0, .int .i64 a0] (0, 0) _ rfl (by (with_reducible repeat (first | refine blk_drewN ?_ _ | refine blk_drew ?_ | refine blk_alloc ?_ _)); refine blk_put (cs := #[.slice none 0 0, .int .i64 0]) ?_ 1 _ rfl; (with_reducible repeat (first | refine blk_drewN ?_ _ | refine blk_drew ?_ | refine blk_alloc ?_ _)); refine blk_put (cs := #[.slice none 0 0, .int .i64 0]) ?_ 0 _ rfl; (with_reducible repeat (first | refine blk_drewN ?_ _ | refine blk_drew ?_ | refine blk_alloc ?_ _)); exact BK101.out) Try.underlying25 rfl (by kernel_rfl)) rfl ?_
  exact ⟨_, by first | rfl | (simp [errW_none, errW_some] <;> rfl) | (simp [*, errW_none, errW_some] <;> rfl), by first | exact Kd.R_nil _ _ _ _ _ | exact Kd.N_nil _ _ _ _ _ | exact Kd.V_nil _ _ _ _ _ | exact Kd.Q_nil _ _ _ _ _ | exact Kd.S_nil _ _ _ _ _, by repeat (first | (with_reducible first | exact HB.out | apply below_alloc | apply pw_below_drewN | apply below_drew1 | refine below_set ?_ GE101.out) | exact HB.out)⟩

/-! ### task_New: function 7 -/
def task_New.f  : Option ((List (S31)) × Int) := (task_Task_14.f 30).bind fun bt103 => (some (bt103.1, bt103.2))
set_option maxHeartbeats 8000000 in
set_option maxRecDepth 100000 in
theorem task_New.calls  (r1 : List (S31)) (r2 : Int) (w : World) (h : task_New.f  = some (r1, r2)) :
    Calls Try.prog 7 #[] w fun e w' => ∃ v0_ : Value, e = .returned (.agg #[v0_, .int .i64 r2]) ∧ Kd.R k31 31 w' w.heap.size (fun _ => True) v0_ r1 ∧ Below w.heap.size w w' := by
  have hu25 := Try.underlying25
  have HB := Aside0.mk (Below.refl w.heap.size w)
  have H : ((task_Task_14.f 30).bind fun bt103 => (some (bt103.1, bt103.2))) = some (r1, r2) := h
  clear h
  replace H := Option.bind_eq_some_iff.mp H
  obtain ⟨⟨t103, t106⟩, A10, H⟩ := H
  replace H : (some (t103, t106)) = some (r1, r2) := H
  have A1 := Aside0.mk A10
  clear A10
  simp only [Option.some.injEq, Prod.mk.injEq] at H
  obtain ⟨rfl, rfl⟩ := H
  go_enter Try.func7, Try.ntmps7
  go_wp2_with (first | ((with_reducible refine gate_dst (N := 0) rfl ?_); refine box_event ?hg (N := 0) ?hd (cs := #[.slice none 0 0, .int .i64 0]) (t := 25) ?hr ?_; (case hd => rfl); (case hg => rfl); (case hr => first | (go_simp; done) | (go_simp; rfl)); intro gb102 hg w2 hbox hb; have n0_ := Aside0.mk (below_step (by repeat (first | (with_reducible first | exact HB.out | apply below_alloc | apply pw_below_drewN | apply below_drew1) | exact HB.out)) hb); have n1_ := Aside0.mk (hbox); have n2_ := Aside0.mk ((by rw [hg]; exact (below_size (by repeat (first | (with_reducible first | exact HB.out | apply below_alloc | apply pw_below_drewN | apply below_drew1) | exact HB.out))) : w.heap.size ≤ gb102)); have n3_ := Aside0.mk ((by rw [hg]; exact (below_size (by repeat (first | (with_reducible first | exact HB.out | apply below_alloc | apply pw_below_drewN | apply below_drew1) | exact HB.out))) : w.heap.size ≤ gb102)); clear HB; have HB := n0_; have BK102 := n1_; have GW102 := n2_; have GE102 := n3_; clear n0_ n1_ n2_ n3_; clear hb hbox hg) | ((with_reducible refine gate_callee (f := 14) rfl ?_); refine goesL_ (some 1) rfl rfl Try.func14 (by kernel_rfl) rfl #[.int .i64 30] rfl (by (try simp only [List.map_toArray, List.map_cons, List.map_nil]); first | done | rfl | (simp only [List.length_drop, List.length_take]; rfl)) ?_; (with_reducible refine (task_Task_14.calls 30 t103 t106 _ A1.out).mono ?_); rintro e w3 ⟨v104, rfl, ho0, hb⟩; refine ⟨_, rfl, ?_⟩; have n0_ := Aside0.mk (Kd.R_lower ho0 (below_size (by repeat (first | (with_reducible first | exact HB.out | apply below_alloc | apply pw_below_drewN | apply below_drew1 | refine below_set ?_ GE102.out) | exact HB.out)))); have n1_ := Aside0.mk (blk_below (g := gb102) (o := .cells #[.slice none 0 0, .int .i64 0] 25 (0, 0)) (by (with_reducible repeat (first | refine blk_drewN ?_ _ | refine blk_drew ?_ | refine blk_alloc ?_ _)); exact BK102.out) hb); have n2_ := Aside0.mk (below_step (by repeat (first | (with_reducible first | exact HB.out | apply below_alloc | apply pw_below_drewN | apply below_drew1 | refine below_set ?_ GE102.out) | exact HB.out)) hb); clear BK102; clear HB; have HO105 := n0_; have BK102 := n1_; have HB := n2_; clear n0_ n1_ n2_; (try clear hb); (try clear hb2); (try clear hk); (try clear hi); (try clear ho0); obtain ⟨Ao4, co4, eo4⟩ := Kd.R_slice HO105.out; subst eo4; have hcz5_0 : w3.cell? ⟨gb102, 0, none⟩ = some (.slice none 0 0) := (blk_cell BK102.out 0).trans rfl; have hcz5_1 : w3.cell? ⟨gb102, 1, none⟩ = some (.int .i64 0) := (blk_cell BK102.out 1).trans rfl; have hfz5_0 := blk_frozen BK102.out 0; have hfz5_1 := blk_frozen BK102.out 1))
  refine bodyPost_ret (results_cell_row rfl _ _ gb102 25 #[.slice Ao4 t103.length co4, .int .i64 t106] (0, 0) _ rfl (by (with_reducible repeat (first | refine blk_drewN ?_ _ | refine blk_drew ?_ | refine blk_alloc ?_ _)); refine blk_put (cs := #[.slice Ao4 t103.length co4, .int .i64 0]) ?_ 1 _ rfl; (with_reducible repeat (first | refine blk_drewN ?_ _ | refine blk_drew ?_ | refine blk_alloc ?_ _)); refine blk_put (cs := #[.slice none 0 0, .int .i64 0]) ?_ 0 _ rfl; (with_reducible repeat (first | refine blk_drewN ?_ _ | refine blk_drew ?_ | refine blk_alloc ?_ _)); exact BK102.out) Try.underlying25 rfl (by kernel_rfl)) rfl ?_
  exact ⟨_, by first | rfl | (simp [errW_none, errW_some] <;> rfl) | (simp [*, errW_none, errW_some] <;> rfl), by (with_reducible repeat (first | apply Kd.R_alloc | apply Kd.R_drewN | apply Kd.R_drew)); exact Kd.R_mono (Kd.R_far (p := ⟨gb102, 1, none⟩) (Kd.R_far (p := ⟨gb102, 0, none⟩) (Kd.R_types HO105.out BK102.out (by decide)) (fun _ hk => hk.2) (.slice Ao4 t103.length co4)) (fun _ hk => hk.2) (.int .i64 t106)) (fun _ hk => trivial), by repeat (first | (with_reducible first | exact HB.out | apply below_alloc | apply pw_below_drewN | apply below_drew1 | refine below_set ?_ GE102.out) | exact HB.out)⟩

/-! ### task_Task_with: function 19 -/
def task_Task_with.f (l0_0 : List (S31)) (a0_1 : Int) (l1 : List (S31)) : Option ((List (S31)) × Int) := some (l1, a0_1)
set_option maxHeartbeats 8000000 in
set_option maxRecDepth 100000 in
theorem task_Task_with.calls (A0_0 : Option Addr) (c0_0 : Nat) (l0_0 : List (S31)) (a0_1 : Int) (P1_ : Nat → Prop) (A1 : Option Addr) (c1 : Nat) (l1 : List (S31)) (r1 : List (S31)) (r2 : Int) (w : World) (hr0_0 : Kd.C k31 w A0_0 l0_0.length l0_0) (hc0_0 : l0_0.length ≤ c0_0) (hs1 : Kd.V k31 31 w w.heap.size (fun k_ => P1_ k_) (.slice A1 l1.length c1) l1) (h : task_Task_with.f l0_0 a0_1 l1 = some (r1, r2)) :
    Calls Try.prog 19 #[.agg #[.slice A0_0 l0_0.length c0_0, .int .i64 a0_1], .slice A1 l1.length c1] w fun e w' => ∃ v0_ : Value, e = .returned (.agg #[v0_, .int .i64 r2]) ∧ Kd.V k31 31 w' w.heap.size (fun k_ => (P1_ k_ ∨ w.heap.size ≤ k_)) v0_ r1 ∧ Below w.heap.size w w' := by
  have hu25 := Try.underlying25
  have HR0_0 := Aside0.mk hr0_0
  have HC0_0 := Aside0.mk hc0_0
  clear hr0_0 hc0_0
  have HO1 := Aside0.mk (show Kd.V k31 31 w w.heap.size (fun k_ => (P1_ k_ ∨ w.heap.size ≤ k_)) (.slice A1 l1.length c1) l1 from Kd.V_mono hs1 (fun k_ hk => .inl hk))
  have HB := Aside0.mk (Below.refl w.heap.size w)
  have H : (some (l1, a0_1)) = some (r1, r2) := h
  clear h
  simp only [Option.some.injEq, Prod.mk.injEq] at H
  obtain ⟨rfl, rfl⟩ := H
  go_enter Try.func19, Try.ntmps19
  go_wp2_with (first | ((with_reducible refine gate_dst (N := 2) rfl ?_); refine box_event ?hg (N := 2) ?hd (cs := #[.slice A0_0 l0_0.length c0_0, .int .i64 a0_1]) (t := 25) ?hr ?_; (case hd => rfl); (case hg => rfl); (case hr => first | (go_simp; done) | (go_simp; rfl)); intro gb107 hg w3 hbox hb; have n0_ := Aside0.mk (Kd.V_below (Kd.V_elderB (by (with_reducible repeat (first | apply Kd.V_alloc | apply Kd.V_drewN | apply Kd.V_drew)); exact HO1.out) gb107 (Nat.le_of_eq hg.symm)) hb); have n1_ := Aside0.mk (below_step (by repeat (first | (with_reducible first | exact HB.out | apply below_alloc | apply pw_below_drewN | apply below_drew1) | exact HB.out)) hb); have n2_ := Aside0.mk (hbox); have n3_ := Aside0.mk ((by rw [hg]; exact (below_size (by repeat (first | (with_reducible first | exact HB.out | apply below_alloc | apply pw_below_drewN | apply below_drew1) | exact HB.out))) : w.heap.size ≤ gb107)); have n4_ := Aside0.mk ((by rw [hg]; exact (below_size (by repeat (first | (with_reducible first | exact HB.out | apply below_alloc | apply pw_below_drewN | apply below_drew1) | exact HB.out))) : w.heap.size ≤ gb107)); clear HO1; clear HB; have HO1 := n0_; have HB := n1_; have BK107 := n2_; have GW107 := n3_; have GE107 := n4_; clear n0_ n1_ n2_ n3_ n4_; clear hb hbox hg) | ((with_reducible refine gate_dst (N := 4) rfl ?_); refine box_event ?hg (N := 4) ?hd (cs := #[.slice none 0 0, .int .i64 0]) (t := 25) ?hr ?_; (case hd => rfl); (case hg => rfl); (case hr => first | (go_simp; done) | (go_simp; rfl)); intro gb108 hg w4 hbox hb; have n0_ := Aside0.mk (Kd.V_below (Kd.V_elderB (by (with_reducible repeat (first | apply Kd.V_alloc | apply Kd.V_drewN | apply Kd.V_drew)); exact HO1.out) gb108 (Nat.le_of_eq hg.symm)) hb); have n1_ := Aside0.mk (blk_below (g := gb107) (o := .cells #[.slice A0_0 l0_0.length c0_0, .int .i64 a0_1] 25 (0, 0)) (by (with_reducible repeat (first | refine blk_drewN ?_ _ | refine blk_drew ?_ | refine blk_alloc ?_ _)); exact BK107.out) hb); have n2_ := Aside0.mk (below_step (by repeat (first | (with_reducible first | exact HB.out | apply below_alloc | apply pw_below_drewN | apply below_drew1 | refine below_set ?_ GE107.out) | exact HB.out)) hb); have n3_ := Aside0.mk (hbox); have n4_ := Aside0.mk ((by rw [hg]; exact (below_size (by repeat (first | (with_reducible first | exact HB.out | apply below_alloc | apply pw_below_drewN | apply below_drew1 | refine below_set ?_ GE107.out) | exact HB.out))) : w.heap.size ≤ gb108)); have n5_ := Aside0.mk ((by rw [hg]; exact (below_size (by repeat (first | (with_reducible first | exact HB.out | apply below_alloc | apply pw_below_drewN | apply below_drew1 | refine below_set ?_ GE107.out) | exact HB.out))) : w.heap.size ≤ gb108)); have n6_ := Aside0.mk ((by rw [hg]; exact Nat.ne_of_lt (blk_lt (g := gb107) (o := .cells #[.slice A0_0 l0_0.length c0_0, .int .i64 a0_1] 25 (0, 0)) (by (with_reducible repeat (first | refine blk_drewN ?_ _ | refine blk_drew ?_ | refine blk_alloc ?_ _)); exact BK107.out)) : gb107 ≠ gb108)); have n7_ := Aside0.mk ((by rw [hg]; exact Nat.ne_of_gt (blk_lt (g := gb107) (o := .cells #[.slice A0_0 l0_0.length c0_0, .int .i64 a0_1] 25 (0, 0)) (by (with_reducible repeat (first | refine blk_drewN ?_ _ | refine blk_drew ?_ | refine blk_alloc ?_ _)); exact BK107.out)) : gb108 ≠ gb107)); clear HO1; clear BK107; clear HB; have HO1 := n0_; have BK107 := n1_; have HB := n2_; have BK108 := n3_; have GW108 := n4_; have GE108 := n5_; have NB107_108 := n6_; have NB108_107 := n7_; clear n0_ n1_ n2_ n3_ n4_ n5_ n6_ n7_; clear hb hbox hg; have hnb5 := NB107_108.out; have hnc5 := NB108_107.out; have hcz6_0 : w4.cell? ⟨gb107, 0, none⟩ = some (.slice A0_0 l0_0.length c0_0) := (blk_cell BK107.out 0).trans rfl; have hcz6_1 : w4.cell? ⟨gb107, 1, none⟩ = some (.int .i64 a0_1) := (blk_cell BK107.out 1).trans rfl; have hfz6_0 := blk_frozen BK107.out 0; have hfz6_1 := blk_frozen BK107.out 1; have hcz7_0 : w4.cell? ⟨gb108, 0, none⟩ = some (.slice none 0 0) := (blk_cell BK108.out 0).trans rfl; have hcz7_1 : w4.cell? ⟨gb108, 1, none⟩ = some (.int .i64 0) := (blk_cell BK108.out 1).trans rfl; have hfz7_0 := blk_frozen BK108.out 0; have hfz7_1 := blk_frozen BK108.out 1))
  refine bodyPost_ret (results_cell_row rfl _ _ gb108 25 #[.slice A1 l1.length c1, .int .i64 a0_1] (0, 0) _ rfl (by (with_reducible repeat (first | refine blk_drewN ?_ _ | refine blk_drew ?_ | refine blk_alloc ?_ _)); refine blk_put (cs := #[.slice A1 l1.length c1, .int .i64 0]) ?_ 1 _ rfl; (with_reducible repeat (first | refine blk_drewN ?_ _ | refine blk_drew ?_ | refine blk_alloc ?_ _)); refine blk_put (cs := #[.slice none 0 0, .int .i64 0]) ?_ 0 _ rfl; (with_reducible repeat (first | refine blk_drewN ?_ _ | refine blk_drew ?_ | refine blk_alloc ?_ _)); refine blk_far ?_ NB108_107.out _; (with_reducible repeat (first | refine blk_drewN ?_ _ | refine blk_drew ?_ | refine blk_alloc ?_ _)); exact BK108.out) Try.underlying25 rfl (by kernel_rfl)) rfl ?_
  exact ⟨_, by first | rfl | (simp [errW_none, errW_some] <;> rfl) | (simp [*, errW_none, errW_some] <;> rfl), by (with_reducible repeat (first | apply Kd.V_alloc | apply Kd.V_drewN | apply Kd.V_drew)); exact Kd.V_mono (Kd.V_far (p := ⟨gb108, 1, none⟩) (Kd.V_far (p := ⟨gb108, 0, none⟩) (Kd.V_far (p := ⟨gb107, 0, none⟩) (Kd.V_mono (Kd.V_mono HO1.out (fun k_ hk => (⟨hk, hk.1.2⟩ : _ ∧ k_ ≠ gb107))) (fun k_ hk => (⟨hk, hk.1.2⟩ : _ ∧ k_ ≠ gb108))) (fun _ hk => hk.1.2) (.slice A1 l1.length c1)) (fun _ hk => hk.2) (.slice A1 l1.length c1)) (fun _ hk => hk.2) (.int .i64 a0_1)) (fun _ hk => hk.1.1.1.1), by repeat (first | (with_reducible first | exact HB.out | apply below_alloc | apply pw_below_drewN | apply below_drew1 | refine below_set ?_ GE107.out | refine below_set ?_ GE108.out) | exact HB.out)⟩

/-! ### task_Task_15: function 15, by hand -/
def task_Task_15.f (l0_0 : List (S31)) (a0_1 : Int) (a1_0 : Int) (a1_1 : Int) (a1_2 : Int) : Option ((List (S31)) × Int × Int) := if (l0_0.length : Int) ≥ a0_1 then some (l0_0, a0_1, 4) else if l0_0.length < 1000000 then some (l0_0 ++ [(⟨a1_0, a1_1, a1_2⟩ : S31)], a0_1, 0) else none
def task_Task_15.T4 : Bool × List (List Nat × List Nat) := (true, [([], []), ([], []), ([1], [1]), ([], []), ([], []), ([2, 3, 4], [2, 3, 4]), ([], []), ([6], [6]), ([5, 7], [5, 7]), ([0, 8, 8], [0, 8]), ([9, 9, 0, 1, 2, 3, 4, 5, 6, 7, 8, 9], [9]), ([10, 0, 1, 2, 3, 4, 5, 6, 7, 8, 9, 10], [])])
def task_Task_15.B4 : List Nat := [0, 0, 2, 0, 0, 30, 0, 64, 254, 511, 1023, 2047]
theorem task_Task_15.tab4 : rtab .any (opsOf Try.f15 4) = task_Task_15.T4 := by kernel_rfl
theorem task_Task_15.bits4 : waitsOk task_Task_15.T4.2 task_Task_15.B4 = true := by kernel_rfl
set_option maxHeartbeats 8000000 in
set_option maxRecDepth 100000 in
theorem task_Task_15.calls (P0_0_ : Nat → Prop) (A0_0 : Option Addr) (c0_0 : Nat) (l0_0 : List (S31)) (a0_1 : Int) (a1_0 : Int) (a1_1 : Int) (a1_2 : Int) (r1 : List (S31)) (r2 : Int) (r3 : Int) (w : World) (hs0_0 : Kd.V k31 31 w w.heap.size (fun k_ => P0_0_ k_) (.slice A0_0 l0_0.length c0_0) l0_0) (h : task_Task_15.f l0_0 a0_1 a1_0 a1_1 a1_2 = some (r1, r2, r3)) :
    Calls Try.prog 15 #[.agg #[.slice A0_0 l0_0.length c0_0, .int .i64 a0_1], .agg #[.int .i64 a1_0, .int .i64 a1_1, .int .i64 a1_2]] w fun e w' => ∃ v0_ : Value, e = .returned (.tuple #[.agg #[v0_, .int .i64 r2], .int .i64 r3]) ∧ Kd.V k31 31 w' w.heap.size (fun k_ => (P0_0_ k_ ∨ w.heap.size ≤ k_)) v0_ r1 ∧ Below w.heap.size w w' := by
  unfold task_Task_15.f at h
  by_cases c3 : (l0_0.length : Int) ≥ a0_1
  · rw [if_pos c3] at h
    have c3b0 : decide (a0_1 ≤ (l0_0.length : Int)) = true := decide_eq_true c3
    clear c3
    simp only [Option.some.injEq, Prod.mk.injEq] at h
    obtain ⟨rfl, rfl, rfl⟩ := h
    have HV := Aside0.mk hs0_0
    clear hs0_0
    go_enter Try.func15, Try.ntmps15
    go_wp2
    exact bodyPost_ret (v := .tuple #[.agg #[.slice A0_0 l0_0.length c0_0, .int .i64 a0_1], .int .i64 4]) (by simp [results, Try.results15, go_sem]) rfl ⟨_, rfl, Kd.V_mono (Kd.V_alloc (Kd.V_alloc (Kd.V_alloc HV.out _) _) _) (fun _ hk => .inl hk), (((Below.refl _ _).alloc (Nat.le_refl _) _).alloc (by simp) _).alloc (by simp; omega) _⟩
  · rw [if_neg c3] at h
    have c3b0 : decide (a0_1 ≤ (l0_0.length : Int)) = false := decide_eq_false c3
    clear c3
    by_cases c4 : l0_0.length < 1000000
    · rw [if_pos c4] at h
      simp only [Option.some.injEq, Prod.mk.injEq] at h
      obtain ⟨rfl, rfl, rfl⟩ := h
      have HV := Aside0.mk hs0_0
      have hcap := (Kd.V_at hs0_0).2.1
      clear hs0_0
      go_enter Try.func15, Try.ntmps15
      go_wp2
      have HB := Aside0.mk (show Below w.heap.size w (((w.alloc (.cells #[.slice A0_0 l0_0.length c0_0, .int .i64 a0_1] 25)).alloc (.cells #[.int .i64 a1_0, .int .i64 a1_1, .int .i64 a1_2] 31)).alloc (.cells #[.slice none 0 0, .int .i64 0] 25)).drew from below_drew1 ((((Below.refl _ _).alloc (Nat.le_refl _) _).alloc (by simp) _).alloc (by simp; omega) _))
      have HVW := Aside0.mk (show Kd.V k31 31 (((w.alloc (.cells #[.slice A0_0 l0_0.length c0_0, .int .i64 a0_1] 25)).alloc (.cells #[.int .i64 a1_0, .int .i64 a1_1, .int .i64 a1_2] 31)).alloc (.cells #[.slice none 0 0, .int .i64 0] 25)).drew w.heap.size (fun k_ => P0_0_ k_ ∧ k_ < w.heap.size) (.slice A0_0 l0_0.length c0_0) l0_0 from Kd.V_drew (Kd.V_alloc (Kd.V_alloc (Kd.V_alloc (Kd.V_bound HV.out) _) _) _))
      have HZ := Aside0.mk (show w.heap.size + 3 = (((w.alloc (.cells #[.slice A0_0 l0_0.length c0_0, .int .i64 a0_1] 25)).alloc (.cells #[.int .i64 a1_0, .int .i64 a1_1, .int .i64 a1_2] 31)).alloc (.cells #[.slice none 0 0, .int .i64 0] 25)).drew.heap.size by simp)
      have HG := Aside0.mk (show (((w.alloc (.cells #[.slice A0_0 l0_0.length c0_0, .int .i64 a0_1] 25)).alloc (.cells #[.int .i64 a1_0, .int .i64 a1_1, .int .i64 a1_2] 31)).alloc (.cells #[.slice none 0 0, .int .i64 0] 25)).drew.heap[w.heap.size + 1 + 1]? = some (.cells #[.slice none 0 0, .int .i64 0] 25 (0, 0)) from blk_drew (by have h2 := blk_new ((w.alloc (.cells #[.slice A0_0 l0_0.length c0_0, .int .i64 a0_1] 25)).alloc (.cells #[.int .i64 a1_0, .int .i64 a1_1, .int .i64 a1_2] 31)) (.cells #[.slice none 0 0, .int .i64 0] 25); rw [World.size_alloc, World.size_alloc] at h2; exact h2))
      refine start_ (n := 12) (S := fun w' => w'.cell? ⟨w.heap.size, 0, none⟩ = some (.slice A0_0 l0_0.length c0_0) ∧ w'.cell? ⟨w.heap.size, 1, none⟩ = some (.int .i64 a0_1) ∧ w'.cell? ⟨w.heap.size + 1, 0, none⟩ = some (.int .i64 a1_0) ∧ w'.cell? ⟨w.heap.size + 1, 1, none⟩ = some (.int .i64 a1_1) ∧ w'.cell? ⟨w.heap.size + 1, 2, none⟩ = some (.int .i64 a1_2)) (ds := []) #[false, false, false, false, false, false, false, false, false, false, false, false] (by kernel_rfl) rfl rfl ?_ (fun hHeld => ?_)
      · refine ⟨?_, ?_, ?_, ?_, ?_⟩ <;> go_simp
      refine with_tabW task_Task_15.tab4 task_Task_15.bits4 (fun HT_ HW_ => ?_)
      generalize (((w.alloc (.cells #[.slice A0_0 l0_0.length c0_0, .int .i64 a0_1] 25)).alloc (.cells #[.int .i64 a1_0, .int .i64 a1_1, .int .i64 a1_2] 31)).alloc (.cells #[.slice none 0 0, .int .i64 0] 25)).drew = W0 at HB HVW HZ HG hHeld ⊢
      refine pure_ (i := 1) (N := some 16) (v := ?_) (a' := ?_) #[false, true, false, false, false, false, false, false, false, false, false, false] rfl rfl (any_of HT_.out (by kernel_rfl)) (fun _ _ _ h => h) (Or.inl ⟨by rfl, ?_⟩) ?_ ?_
      rotate_left
      · intro w'
        go_simp
        with_reducible rfl
      rotate_left
      · simp only [Act.put, List.setIfInBounds_toArray, List.set_cons_zero, List.set_cons_succ, i64_w, i32_w]
        rfl
      refine pure_ (i := 3) (N := some 18) (v := ?_) (a' := ?_) #[false, true, false, true, false, false, false, false, false, false, false, false] rfl rfl (any_of HT_.out (by kernel_rfl)) (fun _ _ _ h => h) (Or.inl ⟨by rfl, ?_⟩) ?_ ?_
      rotate_left
      · intro w'
        go_simp
        with_reducible rfl
      rotate_left
      · simp only [Act.put, List.setIfInBounds_toArray, List.set_cons_zero, List.set_cons_succ, i64_w, i32_w]
        rfl
      refine pure_ (i := 4) (N := some 19) (v := ?_) (a' := ?_) #[false, true, false, true, true, false, false, false, false, false, false, false] rfl rfl (any_of HT_.out (by kernel_rfl)) (fun _ _ _ h => h) (Or.inl ⟨by rfl, ?_⟩) ?_ ?_
      rotate_left
      · intro w'
        go_simp
        with_reducible rfl
      rotate_left
      · simp only [Act.put, List.setIfInBounds_toArray, List.set_cons_zero, List.set_cons_succ, i64_w, i32_w]
        rfl
      refine take_ (i := 6) (N := some 21) (v := ?_) (a' := ?_) #[false, true, false, true, true, false, true, false, false, false, false, false] rfl rfl (take_ofW HT_.out HW_.out (by kernel_rfl)) (fun _ _ _ h => h) (Or.inl ⟨by rfl, ?_⟩) hHeld ?_ ?_
      rotate_left
      · rintro w' ⟨s0, s1, s2, s3, s4⟩
        try simp only [Int.toNat_natCast] at s0 s1 s2 s3 s4
        go_simp
        with_reducible rfl
      rotate_left
      · simp only [Act.put, List.setIfInBounds_toArray, List.set_cons_zero, List.set_cons_succ, i64_w, i32_w]
        rfl
      refine take_ (i := 0) (N := some 15) (v := ?_) (a' := ?_) #[true, true, false, true, true, false, true, false, false, false, false, false] rfl rfl (take_ofW HT_.out HW_.out (by kernel_rfl)) (fun _ _ _ h => h) (Or.inl ⟨by rfl, ?_⟩) hHeld ?_ ?_
      rotate_left
      · rintro w' ⟨s0, s1, s2, s3, s4⟩
        try simp only [Int.toNat_natCast] at s0 s1 s2 s3 s4
        go_simp
        with_reducible rfl
      rotate_left
      · simp only [Act.put, List.setIfInBounds_toArray, List.set_cons_zero, List.set_cons_succ, i64_w, i32_w]
        rfl
      refine take_ (i := 2) (N := some 17) (v := ?_) (a' := ?_) #[true, true, true, true, true, false, true, false, false, false, false, false] rfl rfl (take_ofW HT_.out HW_.out (by kernel_rfl)) (fun _ _ _ h => h) (Or.inl ⟨by rfl, ?_⟩) hHeld ?_ ?_
      rotate_left
      · rintro w' ⟨s0, s1, s2, s3, s4⟩
        try simp only [Int.toNat_natCast] at s0 s1 s2 s3 s4
        go_simp
        with_reducible rfl
      rotate_left
      · simp only [Act.put, List.setIfInBounds_toArray, List.set_cons_zero, List.set_cons_succ, i64_w, i32_w]
        rfl
      refine pure_ (i := 5) (N := some 20) (v := ?_) (a' := ?_) #[true, true, true, true, true, true, true, false, false, false, false, false] rfl rfl (any_of HT_.out (by kernel_rfl)) (fun _ _ _ h => h) (Or.inl ⟨by rfl, ?_⟩) ?_ ?_
      rotate_left
      · intro w'
        go_simp
        with_reducible rfl
      rotate_left
      · simp only [Act.put, List.setIfInBounds_toArray, List.set_cons_zero, List.set_cons_succ, i64_w, i32_w]
        rfl
      refine one_ (i := 7) (N := some 22) #[true, true, true, true, true, true, true, true, false, false, false, false] rfl rfl (one_of HT_.out (by kernel_rfl)) (by decide) (fun K hK => ?_)
      refine Kd.R_lit_step k31 _ 31 ?hg (N := 22) ?hd (xs := ([(⟨a1_0, a1_1, a1_2⟩ : S31)] : List S31)) (inner := [.int .i64 a1_0, .int .i64 a1_1, .int .i64 a1_2]) (ok := fun _ => True) (okp := fun _ => True) ?hr ?hp (fun _ hk => hk) trivial (Below.refl _ _) (Nat.le_refl _) (by simp) ?_; (case hd => rfl); (case hg => rfl); (case hr => first | (go_simp; done) | (go_simp; rfl)); (case hp => exact one31 _ _ _ _ _ _)
      intro vx W1 hox hb1 _ _
      have lt0 : w.heap.size + 1 < W0.heap.size ∧ w.heap.size + 1 + 1 < W0.heap.size := by have := HZ.out; omega
      refine hK.out _ _ (push_keep hb1 lt0.1 hHeld) (fun hHeld1 => ?_)
      clear hK K
      have HV1 := Aside0.mk (Kd.V_below HVW.out hb1)
      have HB1 := Aside0.mk (HB.out.trans (hb1.mono HB.out.size))
      have HG1 := Aside0.mk ((hb1.block _ lt0.2).trans HG.out)
      have HZ1 := Aside0.mk (show w.heap.size + 1 + 1 < W1.heap.size from Nat.lt_of_lt_of_le lt0.2 hb1.size)
      clear hHeld HVW HB HG hb1
      obtain ⟨Ax, cx, rfl, hcx, hCx⟩ := Kd.R_reads hox
      obtain ⟨ad, rfl, _⟩ := hCx.2.2 (by simp)
      have HCX := Aside0.mk hCx
      clear hCx hox hcx lt0
      refine norm_ (a' := ?_) ?_ ?_
      rotate_left
      · show Act.put _ (some 22) _ = _
        simp only [Act.put, List.setIfInBounds_toArray, List.set_cons_zero, List.set_cons_succ, i64_w, i32_w]
        rfl
      refine one_ (i := 8) (N := some 23) #[true, true, true, true, true, true, true, true, true, false, false, false] rfl rfl (one_of HT_.out (by kernel_rfl)) (by decide) (fun K hK => ?_)
      refine Steps.append_full_step k31 flat31 31 22 (.tmp 20) (.tmp 22) (.agg #[.int .i64 0, .int .i64 0, .int .i64 0]) 24 rfl rfl Try.underlying22 info31 rfl (by decide) A0_0 l0_0 [(⟨a1_0, a1_1, a1_2⟩ : S31)] rfl (Kd.V_reads' HV1.out).2.2 ad 1 cx rfl HCX.out (fun _ _ h => h) (by decide) ?cA ?cB ?cC (fun v2 W2 ho2 hg2 => ?_)
      case cA =>
        rintro rfl
        rcases Nat.eq_zero_or_pos l0_0.length with h0 | h0
        · exact List.eq_nil_of_length_eq_zero h0
        · obtain ⟨_, h1, _⟩ := (Kd.V_reads' HV1.out).2.2.2.2 h0
          cases h1
      case cB => unfold maxLen; omega
      case cC => omega
      have hb2 : Below W1.heap.size W1 W2 := (Below.refl _ _).grown hg2 (Nat.le_refl _) (fun _ h => by cases h)
      have lt1 := HZ1.out
      refine hK.out _ _ (push_keep hb2 (by omega) hHeld1) (fun hHeld2 => ?_)
      clear hK K
      have HV2 := Aside0.mk (Kd.V_below HV1.out hb2)
      have HB2 := Aside0.mk (HB1.out.trans (hb2.mono HB1.out.size))
      have HG2 := Aside0.mk ((hb2.block _ lt1).trans HG1.out)
      have HS2 := Aside0.mk hb2.size
      obtain ⟨A2, c2, rfl⟩ := Kd.R_slice ho2
      have HO2 := Aside0.mk ho2
      clear hHeld1 HV1 HB1 HG1 hb2 hg2 ho2 HCX lt1
      refine norm_ (a' := ?_) ?_ ?_
      rotate_left
      · show Act.put _ (some 23) _ = _
        simp only [Act.put, List.setIfInBounds_toArray, List.set_cons_zero, List.set_cons_succ, i64_w, i32_w]
        rfl
      refine one_ (i := 9) (N := some 24) #[true, true, true, true, true, true, true, true, true, true, false, false] rfl rfl (one_of HT_.out (by kernel_rfl)) (by decide) (fun K hK => ?_)
      refine call_ 19 #[.agg #[.slice A0_0 l0_0.length c0_0, .int .i64 a0_1], .slice A2 (l0_0 ++ [(⟨a1_0, a1_1, a1_2⟩ : S31)]).length c2] (by rfl) rfl (by go_simp) ?_
      refine (task_Task_with.calls A0_0 c0_0 l0_0 a0_1 (fun k => W1.heap.size ≤ k) A2 c2 (l0_0 ++ [(⟨a1_0, a1_1, a1_2⟩ : S31)]) _ _ W2 (Kd.V_reads' HV2.out).2.2 (Kd.V_reads' HV2.out).2.1 (Kd.R_V HO2.out) rfl).mono ?_
      rintro e W3 ⟨v3, rfl, hv3, hb3⟩
      refine ⟨_, rfl, ?_⟩
      have lt2 : w.heap.size + 1 + 1 < W2.heap.size := by have := HZ1.out; have := HS2.out; omega
      refine hK.out _ _ (push_keep hb3 (by omega) hHeld2) (fun hHeld3 => ?_)
      clear hK K
      obtain ⟨A3, c3, rfl⟩ := Kd.V_slice hv3
      have HV3 := Aside0.mk (show Kd.V k31 31 W3 W2.heap.size (fun k => W1.heap.size ≤ k) (.slice A3 (l0_0.length + 1) c3) (l0_0 ++ [(⟨a1_0, a1_1, a1_2⟩ : S31)]) by
        have h := Kd.V_mono (ok' := fun k => W1.heap.size ≤ k) hv3 (fun k hk => hk.elim id (fun h => Nat.le_trans HS2.out h))
        rw [List.length_append] at h
        exact h)
      have HB3 := Aside0.mk (HB2.out.trans (hb3.mono HB2.out.size))
      have HG3 := Aside0.mk ((hb3.block _ lt2).trans HG2.out)
      clear hHeld2 HV2 HB2 HG2 hb3 hv3 HO2 lt2
      refine norm_ (a' := ?_) ?_ ?_
      rotate_left
      · show Act.put _ (some 24) _ = _
        simp only [Act.put, List.setIfInBounds_toArray, List.set_cons_zero, List.set_cons_succ, i64_w, i32_w]
        rfl
      refine one_ (i := 10) (N := none) #[true, true, true, true, true, true, true, true, true, true, true, false] rfl rfl (one_of HT_.out (by kernel_rfl)) (by decide) (fun K hK => ?_)
      have q0 : W3.cell? ⟨w.heap.size + 1 + 1, 0, none⟩ = some (.slice none 0 0) := (blk_cell HG3.out 0).trans rfl
      have q1 : W3.cell? ⟨w.heap.size + 1 + 1, 1, none⟩ = some (.int .i64 0) := (blk_cell HG3.out 1).trans rfl
      have q2 := blk_frozen HG3.out 0
      have q3 := blk_frozen HG3.out 1
      refine skip_ (w1 := ?_) (by rfl) rfl ?_ ?_
      rotate_left
      · go_simp
        rfl
      refine hK.out _ _ (push_far _ _ (push_far _ _ hHeld3)) (fun hHeld4 => ?_)
      clear hK K
      refine pure_ (i := 11) (N := some 5) (v := ?_) (a' := ?_) #[true, true, true, true, true, true, true, true, true, true, true, true] rfl rfl (any_of HT_.out (by kernel_rfl)) (fun _ _ _ h => h) (Or.inl ⟨by rfl, ?_⟩) ?_ ?_
      rotate_left
      · intro w'
        go_simp
        with_reducible rfl
      rotate_left
      · simp only [Act.put, List.setIfInBounds_toArray, List.set_cons_zero, List.set_cons_succ, i64_w, i32_w]
        rfl
      refine done_ (done_of HT_.out (by kernel_rfl)) ?_
      try go_wp2
      refine bodyPost_ret (results_ct rfl _ _ (w.heap.size + 1 + 1) 25 #[.slice A3 (l0_0.length + 1) c3, .int .i64 a0_1] (0, 0) _ rfl (by refine blk_put (cs := #[.slice A3 (l0_0.length + 1) c3, .int .i64 0]) ?_ 1 _ rfl; refine blk_put (cs := #[.slice none 0 0, .int .i64 0]) ?_ 0 _ rfl; exact HG3.out) Try.underlying25 rfl (by kernel_rfl)) rfl ?_
      have lt3 := HZ1.out
      refine ⟨_, rfl, Kd.V_mono (Kd.V_far (p := ⟨w.heap.size + 1 + 1, 1, none⟩) (Kd.V_far (p := ⟨w.heap.size + 1 + 1, 0, none⟩) HV3.out (fun k hk => ?_) _) (fun k hk => ?_) _) (fun k hk => .inr ?_), below_set (below_set HB3.out (by omega)) (by omega)⟩
      · show k ≠ w.heap.size + 1 + 1; omega
      · show k ≠ w.heap.size + 1 + 1; omega
      · omega
    · rw [if_neg c4] at h
      exact absurd h (by simp)
/-! ### task_Add: function 8 -/
def task_Add.f (l0_0 : List (S31)) (a0_1 : Int) (a1_0 : Int) (a1_1 : Int) (a1_2 : Int) : Option ((List (S31)) × Int × Int) := (task_Task_15.f l0_0 a0_1 a1_0 a1_1 a1_2).bind fun bt112 => (some (bt112.1, bt112.2.1, bt112.2.2))
set_option maxHeartbeats 8000000 in
set_option maxRecDepth 100000 in
theorem task_Add.calls (P0_0_ : Nat → Prop) (A0_0 : Option Addr) (c0_0 : Nat) (l0_0 : List (S31)) (a0_1 : Int) (a1_0 : Int) (a1_1 : Int) (a1_2 : Int) (r1 : List (S31)) (r2 : Int) (r3 : Int) (w : World) (hs0_0 : Kd.V k31 31 w w.heap.size (fun k_ => P0_0_ k_) (.slice A0_0 l0_0.length c0_0) l0_0) (h : task_Add.f l0_0 a0_1 a1_0 a1_1 a1_2 = some (r1, r2, r3)) :
    Calls Try.prog 8 #[.agg #[.slice A0_0 l0_0.length c0_0, .int .i64 a0_1], .agg #[.int .i64 a1_0, .int .i64 a1_1, .int .i64 a1_2]] w fun e w' => ∃ v0_ : Value, e = .returned (.tuple #[.agg #[v0_, .int .i64 r2], .int .i64 r3]) ∧ Kd.V k31 31 w' w.heap.size (fun k_ => (P0_0_ k_ ∨ w.heap.size ≤ k_)) v0_ r1 ∧ Below w.heap.size w w' := by
  have hu25 := Try.underlying25
  have hu31 := Try.underlying31
  have HO0_0 := Aside0.mk (show Kd.V k31 31 w w.heap.size (fun k_ => (P0_0_ k_ ∨ w.heap.size ≤ k_)) (.slice A0_0 l0_0.length c0_0) l0_0 from Kd.V_mono hs0_0 (fun k_ hk => .inl hk))
  have HB := Aside0.mk (Below.refl w.heap.size w)
  have H : ((task_Task_15.f l0_0 a0_1 a1_0 a1_1 a1_2).bind fun bt112 => (some (bt112.1, bt112.2.1, bt112.2.2))) = some (r1, r2, r3) := h
  clear h
  replace H := Option.bind_eq_some_iff.mp H
  obtain ⟨⟨t112, t115, t116⟩, A30, H⟩ := H
  replace H : (some (t112, t115, t116)) = some (r1, r2, r3) := H
  have A3 := Aside0.mk A30
  clear A30
  simp only [Option.some.injEq, Prod.mk.injEq] at H
  obtain ⟨rfl, rfl, rfl⟩ := H
  go_enter Try.func8, Try.ntmps8
  go_wp2_with (first | ((with_reducible refine gate_dst (N := 2) rfl ?_); refine box_event ?hg (N := 2) ?hd (cs := #[.slice A0_0 l0_0.length c0_0, .int .i64 a0_1]) (t := 25) ?hr ?_; (case hd => rfl); (case hg => rfl); (case hr => first | (go_simp; done) | (go_simp; rfl)); intro gb109 hg w4 hbox hb; have n0_ := Aside0.mk (Kd.V_below (Kd.V_elderB (by (with_reducible repeat (first | apply Kd.V_alloc | apply Kd.V_drewN | apply Kd.V_drew)); exact HO0_0.out) gb109 (Nat.le_of_eq hg.symm)) hb); have n1_ := Aside0.mk (below_step (by repeat (first | (with_reducible first | exact HB.out | apply below_alloc | apply pw_below_drewN | apply below_drew1) | exact HB.out)) hb); have n2_ := Aside0.mk (hbox); have n3_ := Aside0.mk ((by rw [hg]; exact (below_size (by repeat (first | (with_reducible first | exact HB.out | apply below_alloc | apply pw_below_drewN | apply below_drew1) | exact HB.out))) : w.heap.size ≤ gb109)); have n4_ := Aside0.mk ((by rw [hg]; exact (below_size (by repeat (first | (with_reducible first | exact HB.out | apply below_alloc | apply pw_below_drewN | apply below_drew1) | exact HB.out))) : w.heap.size ≤ gb109)); clear HO0_0; clear HB; have HO0_0 := n0_; have HB := n1_; have BK109 := n2_; have GW109 := n3_; have GE109 := n4_; clear n0_ n1_ n2_ n3_ n4_; clear hb hbox hg) | ((with_reducible refine gate_dst (N := 3) rfl ?_); refine box_event ?hg (N := 3) ?hd (cs := #[.int .i64 a1_0, .int .i64 a1_1, .int .i64 a1_2]) (t := 31) ?hr ?_; (case hd => rfl); (case hg => rfl); (case hr => first | (go_simp; done) | (go_simp; rfl)); intro gb110 hg w5 hbox hb; have n0_ := Aside0.mk (Kd.V_below (Kd.V_elderB (by (with_reducible repeat (first | apply Kd.V_alloc | apply Kd.V_drewN | apply Kd.V_drew)); exact HO0_0.out) gb110 (Nat.le_of_eq hg.symm)) hb); have n1_ := Aside0.mk (blk_below (g := gb109) (o := .cells #[.slice A0_0 l0_0.length c0_0, .int .i64 a0_1] 25 (0, 0)) (by (with_reducible repeat (first | refine blk_drewN ?_ _ | refine blk_drew ?_ | refine blk_alloc ?_ _)); exact BK109.out) hb); have n2_ := Aside0.mk (below_step (by repeat (first | (with_reducible first | exact HB.out | apply below_alloc | apply pw_below_drewN | apply below_drew1 | refine below_set ?_ GE109.out) | exact HB.out)) hb); have n3_ := Aside0.mk (hbox); have n4_ := Aside0.mk ((by rw [hg]; exact (below_size (by repeat (first | (with_reducible first | exact HB.out | apply below_alloc | apply pw_below_drewN | apply below_drew1 | refine below_set ?_ GE109.out) | exact HB.out))) : w.heap.size ≤ gb110)); have n5_ := Aside0.mk ((by rw [hg]; exact (below_size (by repeat (first | (with_reducible first | exact HB.out | apply below_alloc | apply pw_below_drewN | apply below_drew1 | refine below_set ?_ GE109.out) | exact HB.out))) : w.heap.size ≤ gb110)); have n6_ := Aside0.mk ((by rw [hg]; exact Nat.ne_of_lt (blk_lt (g := gb109) (o := .cells #[.slice A0_0 l0_0.length c0_0, .int .i64 a0_1] 25 (0, 0)) (by (with_reducible repeat (first | refine blk_drewN ?_ _ | refine blk_drew ?_ | refine blk_alloc ?_ _)); exact BK109.out)) : gb109 ≠ gb110)); have n7_ := Aside0.mk ((by rw [hg]; exact Nat.ne_of_gt (blk_lt (g := gb109) (o := .cells #[.slice A0_0 l0_0.length c0_0, .int .i64 a0_1] 25 (0, 0)) (by (with_reducible repeat (first | refine blk_drewN ?_ _ | refine blk_drew ?_ | refine blk_alloc ?_ _)); exact BK109.out)) : gb110 ≠ gb109)); clear HO0_0; clear BK109; clear HB; have HO0_0 := n0_; have BK109 := n1_; have HB := n2_; have BK110 := n3_; have GW110 := n4_; have GE110 := n5_; have NB109_110 := n6_; have NB110_109 := n7_; clear n0_ n1_ n2_ n3_ n4_ n5_ n6_ n7_; clear hb hbox hg) | ((with_reducible refine gate_dst (N := 4) rfl ?_); refine box_event ?hg (N := 4) ?hd (cs := #[.slice none 0 0, .int .i64 0]) (t := 25) ?hr ?_; (case hd => rfl); (case hg => rfl); (case hr => first | (go_simp; done) | (go_simp; rfl)); intro gb111 hg w6 hbox hb; have n0_ := Aside0.mk (Kd.V_below (Kd.V_elderB (by (with_reducible repeat (first | apply Kd.V_alloc | apply Kd.V_drewN | apply Kd.V_drew)); exact HO0_0.out) gb111 (Nat.le_of_eq hg.symm)) hb); have n1_ := Aside0.mk (blk_below (g := gb109) (o := .cells #[.slice A0_0 l0_0.length c0_0, .int .i64 a0_1] 25 (0, 0)) (by (with_reducible repeat (first | refine blk_drewN ?_ _ | refine blk_drew ?_ | refine blk_alloc ?_ _)); exact BK109.out) hb); have n2_ := Aside0.mk (blk_below (g := gb110) (o := .cells #[.int .i64 a1_0, .int .i64 a1_1, .int .i64 a1_2] 31 (0, 0)) (by (with_reducible repeat (first | refine blk_drewN ?_ _ | refine blk_drew ?_ | refine blk_alloc ?_ _)); exact BK110.out) hb); have n3_ := Aside0.mk (below_step (by repeat (first | (with_reducible first | exact HB.out | apply below_alloc | apply pw_below_drewN | apply below_drew1 | refine below_set ?_ GE109.out | refine below_set ?_ GE110.out) | exact HB.out)) hb); have n4_ := Aside0.mk (hbox); have n5_ := Aside0.mk ((by rw [hg]; exact (below_size (by repeat (first | (with_reducible first | exact HB.out | apply below_alloc | apply pw_below_drewN | apply below_drew1 | refine below_set ?_ GE109.out | refine below_set ?_ GE110.out) | exact HB.out))) : w.heap.size ≤ gb111)); have n6_ := Aside0.mk ((by rw [hg]; exact (below_size (by repeat (first | (with_reducible first | exact HB.out | apply below_alloc | apply pw_below_drewN | apply below_drew1 | refine below_set ?_ GE109.out | refine below_set ?_ GE110.out) | exact HB.out))) : w.heap.size ≤ gb111)); have n7_ := Aside0.mk ((by rw [hg]; exact Nat.ne_of_lt (blk_lt (g := gb109) (o := .cells #[.slice A0_0 l0_0.length c0_0, .int .i64 a0_1] 25 (0, 0)) (by (with_reducible repeat (first | refine blk_drewN ?_ _ | refine blk_drew ?_ | refine blk_alloc ?_ _)); exact BK109.out)) : gb109 ≠ gb111)); have n8_ := Aside0.mk ((by rw [hg]; exact Nat.ne_of_gt (blk_lt (g := gb109) (o := .cells #[.slice A0_0 l0_0.length c0_0, .int .i64 a0_1] 25 (0, 0)) (by (with_reducible repeat (first | refine blk_drewN ?_ _ | refine blk_drew ?_ | refine blk_alloc ?_ _)); exact BK109.out)) : gb111 ≠ gb109)); have n9_ := Aside0.mk ((by rw [hg]; exact Nat.ne_of_lt (blk_lt (g := gb110) (o := .cells #[.int .i64 a1_0, .int .i64 a1_1, .int .i64 a1_2] 31 (0, 0)) (by (with_reducible repeat (first | refine blk_drewN ?_ _ | refine blk_drew ?_ | refine blk_alloc ?_ _)); exact BK110.out)) : gb110 ≠ gb111)); have n10_ := Aside0.mk ((by rw [hg]; exact Nat.ne_of_gt (blk_lt (g := gb110) (o := .cells #[.int .i64 a1_0, .int .i64 a1_1, .int .i64 a1_2] 31 (0, 0)) (by (with_reducible repeat (first | refine blk_drewN ?_ _ | refine blk_drew ?_ | refine blk_alloc ?_ _)); exact BK110.out)) : gb111 ≠ gb110)); clear HO0_0; clear BK109; clear BK110; clear HB; have HO0_0 := n0_; have BK109 := n1_; have BK110 := n2_; have HB := n3_; have BK111 := n4_; have GW111 := n5_; have GE111 := n6_; have NB109_111 := n7_; have NB111_109 := n8_; have NB110_111 := n9_; have NB111_110 := n10_; clear n0_ n1_ n2_ n3_ n4_ n5_ n6_ n7_ n8_ n9_ n10_; clear hb hbox hg; have hnb7 := NB109_110.out; have hnc7 := NB110_109.out; have hnb8 := NB109_111.out; have hnc8 := NB111_109.out; have hcz9_0 : w6.cell? ⟨gb109, 0, none⟩ = some (.slice A0_0 l0_0.length c0_0) := (blk_cell BK109.out 0).trans rfl; have hcz9_1 : w6.cell? ⟨gb109, 1, none⟩ = some (.int .i64 a0_1) := (blk_cell BK109.out 1).trans rfl; have hfz9_0 := blk_frozen BK109.out 0; have hfz9_1 := blk_frozen BK109.out 1; have hnb10 := NB110_111.out; have hnc10 := NB111_110.out; have hcz11_0 : w6.cell? ⟨gb110, 0, none⟩ = some (.int .i64 a1_0) := (blk_cell BK110.out 0).trans rfl; have hcz11_1 : w6.cell? ⟨gb110, 1, none⟩ = some (.int .i64 a1_1) := (blk_cell BK110.out 1).trans rfl; have hcz11_2 : w6.cell? ⟨gb110, 2, none⟩ = some (.int .i64 a1_2) := (blk_cell BK110.out 2).trans rfl; have hfz11_0 := blk_frozen BK110.out 0; have hfz11_1 := blk_frozen BK110.out 1; have hfz11_2 := blk_frozen BK110.out 2) | ((with_reducible refine gate_callee (f := 15) rfl ?_); refine goesL_ (some 8) rfl rfl Try.func15 (by kernel_rfl) rfl #[.agg #[.slice A0_0 l0_0.length c0_0, .int .i64 a0_1], .agg #[.int .i64 a1_0, .int .i64 a1_1, .int .i64 a1_2]] rfl (by (try simp only [List.map_toArray, List.map_cons, List.map_nil]); first | done | rfl | (simp only [List.length_drop, List.length_take]; rfl)) ?_; (with_reducible refine (task_Task_15.calls (fun k_ => ((((P0_0_ k_ ∨ w.heap.size ≤ k_) ∧ k_ ≠ gb109) ∧ k_ ≠ gb110) ∧ k_ ≠ gb111)) _ _ l0_0 a0_1 a1_0 a1_1 a1_2 t112 t115 t116 _ ?side1 A3.out).mono ?_); (case side1 => exact HO0_0.out); rintro e w12 ⟨v113, rfl, ho0, hb⟩; refine ⟨_, rfl, ?_⟩; have n0_ := Aside0.mk (Kd.V_below (by (with_reducible repeat (first | apply Kd.V_alloc | apply Kd.V_drewN | apply Kd.V_drew)); exact HO0_0.out) hb); have n1_ := Aside0.mk (Kd.V_lower (Kd.V_mono (ok' := fun k_ => (P0_0_ k_ ∨ w.heap.size ≤ k_) ∧ k_ ≠ gb109 ∧ k_ ≠ gb110 ∧ k_ ≠ gb111) ho0 (fun k_ hk_ => ⟨Or.elim hk_ (fun hs_ => hs_.1.1.1) (fun hn_ => (.inr (Nat.le_trans (below_size (by repeat (first | (with_reducible first | exact HB.out | apply below_alloc | apply pw_below_drewN | apply below_drew1 | refine below_set ?_ GE109.out | refine below_set ?_ GE110.out | refine below_set ?_ GE111.out) | exact HB.out))) hn_))), Or.elim hk_ (fun hs_ => hs_.1.1.2) (fun hn_ => (Kd.freshB (g := gb109) (o := .cells #[.slice A0_0 l0_0.length c0_0, .int .i64 a0_1] 25 (0, 0)) (by (with_reducible repeat (first | refine blk_drewN ?_ _ | refine blk_drew ?_ | refine blk_alloc ?_ _)); exact BK109.out) k_ hn_)), Or.elim hk_ (fun hs_ => hs_.1.2) (fun hn_ => (Kd.freshB (g := gb110) (o := .cells #[.int .i64 a1_0, .int .i64 a1_1, .int .i64 a1_2] 31 (0, 0)) (by (with_reducible repeat (first | refine blk_drewN ?_ _ | refine blk_drew ?_ | refine blk_alloc ?_ _)); exact BK110.out) k_ hn_)), Or.elim hk_ (fun hs_ => hs_.2) (fun hn_ => (Kd.freshB (g := gb111) (o := .cells #[.slice none 0 0, .int .i64 0] 25 (0, 0)) (by (with_reducible repeat (first | refine blk_drewN ?_ _ | refine blk_drew ?_ | refine blk_alloc ?_ _)); exact BK111.out) k_ hn_))⟩)) (below_size (by repeat (first | (with_reducible first | exact HB.out | apply below_alloc | apply pw_below_drewN | apply below_drew1 | refine below_set ?_ GE109.out | refine below_set ?_ GE110.out | refine below_set ?_ GE111.out) | exact HB.out)))); have n2_ := Aside0.mk (blk_below (g := gb109) (o := .cells #[.slice A0_0 l0_0.length c0_0, .int .i64 a0_1] 25 (0, 0)) (by (with_reducible repeat (first | refine blk_drewN ?_ _ | refine blk_drew ?_ | refine blk_alloc ?_ _)); exact BK109.out) hb); have n3_ := Aside0.mk (blk_below (g := gb110) (o := .cells #[.int .i64 a1_0, .int .i64 a1_1, .int .i64 a1_2] 31 (0, 0)) (by (with_reducible repeat (first | refine blk_drewN ?_ _ | refine blk_drew ?_ | refine blk_alloc ?_ _)); exact BK110.out) hb); have n4_ := Aside0.mk (blk_below (g := gb111) (o := .cells #[.slice none 0 0, .int .i64 0] 25 (0, 0)) (by (with_reducible repeat (first | refine blk_drewN ?_ _ | refine blk_drew ?_ | refine blk_alloc ?_ _)); exact BK111.out) hb); have n5_ := Aside0.mk (below_step (by repeat (first | (with_reducible first | exact HB.out | apply below_alloc | apply pw_below_drewN | apply below_drew1 | refine below_set ?_ GE109.out | refine below_set ?_ GE110.out | refine below_set ?_ GE111.out) | exact HB.out)) hb); clear HO0_0; clear BK109; clear BK110; clear BK111; clear HB; have HO0_0 := n0_; have HO114 := n1_; have BK109 := n2_; have BK110 := n3_; have BK111 := n4_; have HB := n5_; clear n0_ n1_ n2_ n3_ n4_ n5_; (try clear hb); (try clear hb2); (try clear hk); (try clear hi); (try clear ho0); obtain ⟨Ao13, co13, eo13⟩ := Kd.V_slice HO114.out; subst eo13; have hcz14_0 : w12.cell? ⟨gb111, 0, none⟩ = some (.slice none 0 0) := (blk_cell BK111.out 0).trans rfl; have hcz14_1 : w12.cell? ⟨gb111, 1, none⟩ = some (.int .i64 0) := (blk_cell BK111.out 1).trans rfl; have hfz14_0 := blk_frozen BK111.out 0; have hfz14_1 := blk_frozen BK111.out 1))
  refine bodyPost_ret (results_ct rfl _ _ gb111 25 #[.slice Ao13 t112.length co13, .int .i64 t115] (0, 0) _ rfl (by (with_reducible repeat (first | refine blk_drewN ?_ _ | refine blk_drew ?_ | refine blk_alloc ?_ _)); refine blk_put (cs := #[.slice Ao13 t112.length co13, .int .i64 0]) ?_ 1 _ rfl; (with_reducible repeat (first | refine blk_drewN ?_ _ | refine blk_drew ?_ | refine blk_alloc ?_ _)); refine blk_put (cs := #[.slice none 0 0, .int .i64 0]) ?_ 0 _ rfl; (with_reducible repeat (first | refine blk_drewN ?_ _ | refine blk_drew ?_ | refine blk_alloc ?_ _)); exact BK111.out) Try.underlying25 rfl (by kernel_rfl)) rfl ?_
  exact ⟨_, by first | rfl | (simp [errW_none, errW_some] <;> rfl) | (simp [*, errW_none, errW_some] <;> rfl), by (with_reducible repeat (first | apply Kd.V_alloc | apply Kd.V_drewN | apply Kd.V_drew)); exact Kd.V_mono (Kd.V_far (p := ⟨gb111, 1, none⟩) (Kd.V_far (p := ⟨gb111, 0, none⟩) (Kd.V_mono HO114.out (fun k_ hk => (⟨hk, hk.2.2.2⟩ : _ ∧ k_ ≠ gb111))) (fun _ hk => hk.2) (.slice Ao13 t112.length co13)) (fun _ hk => hk.2) (.int .i64 t115)) (fun _ hk => hk.1.1), by repeat (first | (with_reducible first | exact HB.out | apply below_alloc | apply pw_below_drewN | apply below_drew1 | refine below_set ?_ GE109.out | refine below_set ?_ GE110.out | refine below_set ?_ GE111.out) | exact HB.out)⟩

/-! ### task_Task_20: function 20 -/
def task_Task_20.f (l0_0 : List (S31)) (a0_1 : Int) (a1 : Int) : Option ((List (S31)) × Int × (List (S31))) := if 0 ≤ (mx 0 (mn a1 (l0_0.length : Int))) then (if (mx 0 (mn a1 (l0_0.length : Int))) ≤ (l0_0.length : Int) then ((task_Task_with.f l0_0 a0_1 (l0_0.drop ((mx 0 (mn a1 (l0_0.length : Int))) : Int).toNat)).bind fun bt124 => (some (bt124.1, bt124.2, (l0_0.take ((mx 0 (mn a1 (l0_0.length : Int))) : Int).toNat)))) else (none)) else (none)
def task_Task_20.T2 : Bool × List (List Nat × List Nat) := (true, [([], []), ([], []), ([1], [1]), ([], []), ([2, 3], [2, 3]), ([0, 4], [0, 4]), ([], []), ([6], [6]), ([], []), ([7, 8], [7, 8]), ([5, 5, 0, 1, 2, 3, 4, 5], [5]), ([9, 10, 0, 1, 2, 3, 4, 5, 6, 7, 8, 9, 10], [9])])
def task_Task_20.B2 : List Nat := [0, 0, 2, 0, 14, 31, 0, 64, 0, 448, 63, 2047]
theorem task_Task_20.tab2 : rtab .any (opsOf Try.f20 2) = task_Task_20.T2 := by kernel_rfl
theorem task_Task_20.bits2 : waitsOk task_Task_20.T2.2 task_Task_20.B2 = true := by kernel_rfl
set_option maxHeartbeats 8000000 in
set_option maxRecDepth 100000 in
theorem task_Task_20.calls (P0_0_ : Nat → Prop) (A0_0 : Option Addr) (c0_0 : Nat) (l0_0 : List (S31)) (a0_1 : Int) (a1 : Int) (r1 : List (S31)) (r2 : Int) (r3 : List (S31)) (w : World) (hs0_0 : Kd.V k31 31 w w.heap.size (fun k_ => P0_0_ k_) (.slice A0_0 l0_0.length c0_0) l0_0) (h : task_Task_20.f l0_0 a0_1 a1 = some (r1, r2, r3)) :
    Calls Try.prog 20 #[.agg #[.slice A0_0 l0_0.length c0_0, .int .i64 a0_1], .int .i64 a1] w fun e w' => ∃ v0_ v2_ : Value, e = .returned (.tuple #[.agg #[v0_, .int .i64 r2], v2_]) ∧ Kd.V k31 31 w' w.heap.size (fun k_ => (P0_0_ k_ ∨ w.heap.size ≤ k_)) v0_ r1 ∧ Kd.V k31 31 w' w.heap.size (fun k_ => (P0_0_ k_ ∨ w.heap.size ≤ k_)) v2_ r3 ∧ Below w.heap.size w w' := by
  have hu25 := Try.underlying25
  have HO0_0 := Aside0.mk (show Kd.V k31 31 w w.heap.size (fun k_ => (P0_0_ k_ ∨ w.heap.size ≤ k_)) (.slice A0_0 l0_0.length c0_0) l0_0 from Kd.V_mono hs0_0 (fun k_ hk => .inl hk))
  have HB := Aside0.mk (Below.refl w.heap.size w)
  have H : (if 0 ≤ (mx 0 (mn a1 (l0_0.length : Int))) then (if (mx 0 (mn a1 (l0_0.length : Int))) ≤ (l0_0.length : Int) then ((task_Task_with.f l0_0 a0_1 (l0_0.drop ((mx 0 (mn a1 (l0_0.length : Int))) : Int).toNat)).bind fun bt124 => (some (bt124.1, bt124.2, (l0_0.take ((mx 0 (mn a1 (l0_0.length : Int))) : Int).toNat)))) else (none)) else (none)) = some (r1, r2, r3) := h
  clear h
  obtain ⟨ji3, hji3⟩ : ∃ j_ : Int, (mn a1 (l0_0.length : Int)) = j_ := ⟨_, rfl⟩
  replace H : (if 0 ≤ (mx 0 (ji3)) then (if (mx 0 (ji3)) ≤ (l0_0.length : Int) then ((task_Task_with.f l0_0 a0_1 (l0_0.drop ((mx 0 (ji3)) : Int).toNat)).bind fun bt124 => (some (bt124.1, bt124.2, (l0_0.take ((mx 0 (ji3)) : Int).toNat)))) else (none)) else (none)) = some (r1, r2, r3) := by first | (rw [hji3] at H; exact H) | (simp only [hji3] at H ⊢; exact H)
  have hji3_ : (if (l0_0.length : Int) < a1 then (l0_0.length : Int) else a1) = ji3 := hji3
  obtain ⟨ji4, hji4⟩ : ∃ j_ : Int, (mx 0 (ji3)) = j_ := ⟨_, rfl⟩
  replace H : (if 0 ≤ (ji4) then (if (ji4) ≤ (l0_0.length : Int) then ((task_Task_with.f l0_0 a0_1 (l0_0.drop ((ji4) : Int).toNat)).bind fun bt124 => (some (bt124.1, bt124.2, (l0_0.take ((ji4) : Int).toNat)))) else (none)) else (none)) = some (r1, r2, r3) := by first | (rw [hji4] at H; exact H) | (simp only [hji4] at H ⊢; exact H)
  have hji4_ : (if 0 < (ji3) then (ji3) else 0) = ji4 := hji4
  by_cases c5 : 0 ≤ (ji4)
  · rw [if_pos c5] at H
    have c5b0 := eq_true c5
    have c5b1 : decide (0 ≤ (ji4)) = true := decide_eq_true c5
    clear c5
    by_cases c6 : (ji4) ≤ (l0_0.length : Int)
    · rw [if_pos c6] at H
      have c6b0 := eq_true c6
      have c6b1 : decide ((ji4) ≤ (l0_0.length : Int)) = true := decide_eq_true c6
      clear c6
      obtain ⟨y119, hy119⟩ : ∃ y_ : List (S31), y_ = (l0_0.drop ((ji4) : Int).toNat) := ⟨_, rfl⟩
      replace H : ((task_Task_with.f l0_0 a0_1 y119).bind fun bt124 => (some (bt124.1, bt124.2, (l0_0.take ((ji4) : Int).toNat)))) = some (r1, r2, r3) := by first | (rw [hy119]; with_reducible exact H) | (have H2_ := (Option.bind_some _ _).symm.trans H; rw [hy119]; with_reducible exact H2_) | (have H2_ := (Option.bind_some _ _).symm.trans H; with_reducible exact H2_) | with_reducible exact H | (rw [hy119]; exact H) | exact H
      have Ny119 := Aside0.mk hy119
      clear hy119
      replace H := Option.bind_eq_some_iff.mp H
      obtain ⟨⟨t124, t127⟩, A70, H⟩ := H
      replace H : (some (t124, t127, (l0_0.take ((ji4) : Int).toNat))) = some (r1, r2, r3) := H
      have A7 := Aside0.mk A70
      clear A70
      have c8b0 := eq_true (of_decide_eq_true (by first | (with_reducible assumption) | assumption) : 0 ≤ (ji4))
      have c9b0 := eq_true (of_decide_eq_true (by first | (with_reducible assumption) | assumption) : (ji4) ≤ (l0_0.length : Int))
      obtain ⟨y128, hy128⟩ : ∃ y_ : List (S31), y_ = (l0_0.take ((ji4) : Int).toNat) := ⟨_, rfl⟩
      replace H : (some (t124, t127, y128)) = some (r1, r2, r3) := by first | (rw [hy128]; with_reducible exact H) | (have H2_ := (Option.bind_some _ _).symm.trans H; rw [hy128]; with_reducible exact H2_) | (have H2_ := (Option.bind_some _ _).symm.trans H; with_reducible exact H2_) | with_reducible exact H | (rw [hy128]; exact H) | exact H
      have Ny128 := Aside0.mk hy128
      clear hy128
      simp only [Option.some.injEq, Prod.mk.injEq] at H
      obtain ⟨rfl, rfl, rfl⟩ := H
      go_enter Try.func20, Try.ntmps20
      try go_wp2_with (first | ((with_reducible refine gate_dst (N := 2) rfl ?_); refine box_event ?hg (N := 2) ?hd (cs := #[.slice A0_0 l0_0.length c0_0, .int .i64 a0_1]) (t := 25) ?hr ?_; (case hd => rfl); (case hg => rfl); (case hr => first | (go_simp; done) | (go_simp; rfl)); intro gb117 hg w10 hbox hb; have n0_ := Aside0.mk (Kd.V_below (Kd.V_elderB (by (with_reducible repeat (first | apply Kd.V_alloc | apply Kd.V_drewN | apply Kd.V_drew)); exact HO0_0.out) gb117 (Nat.le_of_eq hg.symm)) hb); have n1_ := Aside0.mk (below_step (by repeat (first | (with_reducible first | exact HB.out | apply below_alloc | apply pw_below_drewN | apply below_drew1) | exact HB.out)) hb); have n2_ := Aside0.mk (hbox); have n3_ := Aside0.mk ((by rw [hg]; exact (below_size (by repeat (first | (with_reducible first | exact HB.out | apply below_alloc | apply pw_below_drewN | apply below_drew1) | exact HB.out))) : w.heap.size ≤ gb117)); have n4_ := Aside0.mk ((by rw [hg]; exact (below_size (by repeat (first | (with_reducible first | exact HB.out | apply below_alloc | apply pw_below_drewN | apply below_drew1) | exact HB.out))) : w.heap.size ≤ gb117)); clear HO0_0; clear HB; have HO0_0 := n0_; have HB := n1_; have BK117 := n2_; have GW117 := n3_; have GE117 := n4_; clear n0_ n1_ n2_ n3_ n4_; clear hb hbox hg) | ((with_reducible refine gate_dst (N := 4) rfl ?_); refine box_event ?hg (N := 4) ?hd (cs := #[.slice none 0 0, .int .i64 0]) (t := 25) ?hr ?_; (case hd => rfl); (case hg => rfl); (case hr => first | (go_simp; done) | (go_simp; rfl)); intro gb118 hg w11 hbox hb; have n0_ := Aside0.mk (Kd.V_below (Kd.V_elderB (by (with_reducible repeat (first | apply Kd.V_alloc | apply Kd.V_drewN | apply Kd.V_drew)); exact HO0_0.out) gb118 (Nat.le_of_eq hg.symm)) hb); have n1_ := Aside0.mk (blk_below (g := gb117) (o := .cells #[.slice A0_0 l0_0.length c0_0, .int .i64 a0_1] 25 (0, 0)) (by (with_reducible repeat (first | refine blk_drewN ?_ _ | refine blk_drew ?_ | refine blk_alloc ?_ _)); exact BK117.out) hb); have n2_ := Aside0.mk (below_step (by repeat (first | (with_reducible first | exact HB.out | apply below_alloc | apply pw_below_drewN | apply below_drew1 | refine below_set ?_ GE117.out) | exact HB.out)) hb); have n3_ := Aside0.mk (hbox); have n4_ := Aside0.mk ((by rw [hg]; exact (below_size (by repeat (first | (with_reducible first | exact HB.out | apply below_alloc | apply pw_below_drewN | apply below_drew1 | refine below_set ?_ GE117.out) | exact HB.out))) : w.heap.size ≤ gb118)); have n5_ := Aside0.mk ((by rw [hg]; exact (below_size (by repeat (first | (with_reducible first | exact HB.out | apply below_alloc | apply pw_below_drewN | apply below_drew1 | refine below_set ?_ GE117.out) | exact HB.out))) : w.heap.size ≤ gb118)); have n6_ := Aside0.mk ((by rw [hg]; exact Nat.ne_of_lt (blk_lt (g := gb117) (o := .cells #[.slice A0_0 l0_0.length c0_0, .int .i64 a0_1] 25 (0, 0)) (by (with_reducible repeat (first | refine blk_drewN ?_ _ | refine blk_drew ?_ | refine blk_alloc ?_ _)); exact BK117.out)) : gb117 ≠ gb118)); have n7_ := Aside0.mk ((by rw [hg]; exact Nat.ne_of_gt (blk_lt (g := gb117) (o := .cells #[.slice A0_0 l0_0.length c0_0, .int .i64 a0_1] 25 (0, 0)) (by (with_reducible repeat (first | refine blk_drewN ?_ _ | refine blk_drew ?_ | refine blk_alloc ?_ _)); exact BK117.out)) : gb118 ≠ gb117)); clear HO0_0; clear BK117; clear HB; have HO0_0 := n0_; have BK117 := n1_; have HB := n2_; have BK118 := n3_; have GW118 := n4_; have GE118 := n5_; have NB117_118 := n6_; have NB118_117 := n7_; clear n0_ n1_ n2_ n3_ n4_ n5_ n6_ n7_; clear hb hbox hg; have hnb12 := NB117_118.out; have hnc12 := NB118_117.out; have hcz13_0 : w11.cell? ⟨gb117, 0, none⟩ = some (.slice A0_0 l0_0.length c0_0) := (blk_cell BK117.out 0).trans rfl; have hcz13_1 : w11.cell? ⟨gb117, 1, none⟩ = some (.int .i64 a0_1) := (blk_cell BK117.out 1).trans rfl; have hfz13_0 := blk_frozen BK117.out 0; have hfz13_1 := blk_frozen BK117.out 1))
      have n0_ := Aside0.mk (Kd.V_drew HO0_0.out)
      have n1_ := Aside0.mk (blk_drew BK117.out)
      have n2_ := Aside0.mk (blk_drew BK118.out)
      have n3_ := Aside0.mk (below_drew1 HB.out)
      clear HO0_0
      clear BK117
      clear BK118
      clear HB
      have HO0_0 := n0_
      have BK117 := n1_
      have BK118 := n2_
      have HB := n3_
      clear n0_ n1_ n2_ n3_
      have q15 : ((ji4) : Int) ≤ ((l0_0.length : Int) : Int) := of_decide_eq_true (by first | (with_reducible assumption) | assumption)
      obtain ⟨i015, hi015, _, hsz15, _⟩ := info_parts info31
      have hroom15 : l0_0.length ≤ c0_0 := (Kd.V_reads' HO0_0.out).2.1
      have hC15 : Kd.F k31 _ _ A0_0 l0_0.length l0_0 := (Kd.V_at (base := w.heap.size) HO0_0.out).2.2
      have q015 : (0 : Int) ≤ ((ji4) : Int) := of_decide_eq_true (by first | (with_reducible assumption) | assumption)
      have hcut15 := cut_from (P := Try.prog) 22 31 .i64 Try.underlying22 hi015 3 hsz15 A0_0 l0_0.length c0_0 (ji4) q015 q15
      have hr15 := Kd.F_cut (m := ((ji4) : Int).toNat) (c := c0_0) hC15 (by omega) hroom15
      obtain ⟨A15, hA15⟩ : ∃ A1, A1 = (if c0_0 = ((ji4) : Int).toNat then A0_0 else (A0_0 : Option Addr).map (·.add (((ji4) : Int).toNat * 3))) := ⟨_, rfl⟩
      obtain ⟨c15, hc15⟩ : ∃ c1, c1 = c0_0 - ((ji4) : Int).toNat := ⟨_, rfl⟩
      have hy15 : y119.length = l0_0.length - ((ji4) : Int).toNat := (by rw [Ny119.out, List.length_drop] <;> omega)
      rw [show (l0_0).drop ((ji4) : Int).toNat = y119 from Ny119.out.symm] at hr15
      replace hr15 : Kd.F k31 _ _ A15 y119.length y119 := (by rw [hA15]; exact hr15)
      rw [← hy15, ← hA15, ← hc15] at hcut15
      have HO123 := Aside0.mk (show Kd.V k31 31 _ w.heap.size _ (.slice A15 y119.length c15) y119 from Kd.V_mk (by rw [hy15, hc15]; exact Nat.sub_le_sub_right hroom15 _) hr15)
      have HC123 := Aside0.mk (show y119.length ≤ c15 from by rw [hy15, hc15]; exact Nat.sub_le_sub_right hroom15 _)
      clear hr15 hC15 hroom15 hi015 hsz15 hc15
      have KY15 := Aside0.mk hy15
      have KA15 := Aside0.mk hA15
      clear hy15 hA15
      replace q15 := eq_true q15
      have q16 : ((ji4) : Int) ≤ ((l0_0.length : Int) : Int) := of_decide_eq_true (by first | (with_reducible assumption) | assumption)
      obtain ⟨i016, hi016, _, hsz16, _⟩ := info_parts info31
      have hroom16 : l0_0.length ≤ c0_0 := (Kd.V_reads' HO0_0.out).2.1
      have hC16 : Kd.F k31 _ _ A0_0 l0_0.length l0_0 := (Kd.V_at (base := w.heap.size) HO0_0.out).2.2
      have hcut16 := cut_to (P := Try.prog) 22 31 .i64 Try.underlying22 hi016 A0_0 l0_0.length c0_0 (ji4) (of_decide_eq_true (by first | (with_reducible assumption) | assumption)) q16 hroom16
      have hr16 := Kd.F_take (m := ((ji4) : Int).toNat) hC16 (by omega)
      have hy16 : y128.length = ((ji4) : Int).toNat := (by rw [Ny128.out, List.length_take]; omega)
      rw [← Ny128.out] at hr16
      rw [← hy16] at hcut16
      have HO132 := Aside0.mk (show Kd.V k31 31 _ w.heap.size _ (.slice A0_0 y128.length c0_0) y128 from Kd.V_mk (by omega) hr16)
      have HC132 := Aside0.mk (show y128.length ≤ c0_0 from by omega)
      clear hr16 hC16 hroom16 hi016 hsz16
      have KY16 := Aside0.mk hy16
      clear hy16
      replace q16 := eq_true q16
      refine start_ (n := 12) (S := fun w' => w'.cell? ⟨gb117, 0, none⟩ = some (.slice A0_0 l0_0.length c0_0) ∧ w'.cell? ⟨gb117, 1, none⟩ = some (.int .i64 a0_1)) (ds := []) #[false, false, false, false, false, false, false, false, false, false, false, false] (by kernel_rfl) rfl rfl ⟨(blk_cell BK117.out 0).trans rfl, (blk_cell BK117.out 1).trans rfl⟩ (fun hHeld => ?_); refine with_tabW task_Task_20.tab2 task_Task_20.bits2 (fun HT_ HW_ => ?_)
      generalize w11.drew = w14 at HO0_0 BK117 BK118 HB HO123 HO132 hHeld ⊢
      refine pure_ (i := 1) (N := some 13) (v := ?_) (a' := ?_) #[false, true, false, false, false, false, false, false, false, false, false, false] rfl rfl (any_of HT_.out (by kernel_rfl)) (fun _ _ _ h => h) (Or.inl ⟨by rfl, ?_⟩) ?_ ?_
      rotate_left
      · intro w'
        go_simp
        with_reducible rfl
      rotate_left
      · simp only [Act.put, List.setIfInBounds_toArray, List.set_cons_zero, List.set_cons_succ, i64_w, i32_w]
        rfl
      refine pure_ (i := 3) (N := some 15) (v := ?_) (a' := ?_) #[false, true, false, true, false, false, false, false, false, false, false, false] rfl rfl (any_of HT_.out (by kernel_rfl)) (fun _ _ _ h => h) (Or.inl ⟨by rfl, ?_⟩) ?_ ?_
      rotate_left
      · intro w'
        go_simp
        with_reducible rfl
      rotate_left
      · simp only [Act.put, List.setIfInBounds_toArray, List.set_cons_zero, List.set_cons_succ, i64_w, i32_w]
        rfl
      refine pure_ (i := 6) (N := some 18) (v := ?_) (a' := ?_) #[false, true, false, true, false, false, true, false, false, false, false, false] rfl rfl (any_of HT_.out (by kernel_rfl)) (fun _ _ _ h => h) (Or.inl ⟨by rfl, ?_⟩) ?_ ?_
      rotate_left
      · intro w'
        go_simp
        with_reducible rfl
      rotate_left
      · simp only [Act.put, List.setIfInBounds_toArray, List.set_cons_zero, List.set_cons_succ, i64_w, i32_w]
        rfl
      refine pure_ (i := 8) (N := some 20) (v := ?_) (a' := ?_) #[false, true, false, true, false, false, true, false, true, false, false, false] rfl rfl (any_of HT_.out (by kernel_rfl)) (fun _ _ _ h => h) (Or.inl ⟨by rfl, ?_⟩) ?_ ?_
      rotate_left
      · intro w'
        go_simp
        with_reducible rfl
      rotate_left
      · simp only [Act.put, List.setIfInBounds_toArray, List.set_cons_zero, List.set_cons_succ, i64_w, i32_w]
        rfl
      refine take_ (i := 0) (N := some 12) (v := ?_) (a' := ?_) #[true, true, false, true, false, false, true, false, true, false, false, false] rfl rfl (take_ofW HT_.out HW_.out (by kernel_rfl)) (fun _ _ _ h => h) (Or.inl ⟨by rfl, ?_⟩) hHeld ?_ ?_
      rotate_left
      · rintro w' ⟨s0, s1⟩
        try simp only [Int.toNat_natCast] at s0 s1
        go_simp
        with_reducible rfl
      rotate_left
      · simp only [Act.put, List.setIfInBounds_toArray, List.set_cons_zero, List.set_cons_succ, i64_w, i32_w]
        rfl
      refine take_ (i := 2) (N := some 14) (v := ?_) (a' := ?_) #[true, true, true, true, false, false, true, false, true, false, false, false] rfl rfl (take_ofW HT_.out HW_.out (by kernel_rfl)) (fun _ _ _ h => h) (Or.inl ⟨by rfl, ?_⟩) hHeld ?_ ?_
      rotate_left
      · rintro w' ⟨s0, s1⟩
        try simp only [Int.toNat_natCast] at s0 s1
        go_simp
        with_reducible rfl
      rotate_left
      · simp only [Act.put, List.setIfInBounds_toArray, List.set_cons_zero, List.set_cons_succ, i64_w, i32_w]
        rfl
      refine pure_ (i := 4) (N := some 16) (v := ?_) (a' := ?_) #[true, true, true, true, true, false, true, false, true, false, false, false] rfl rfl (any_of HT_.out (by kernel_rfl)) (fun _ _ _ h => h) (Or.inl ⟨by rfl, ?_⟩) ?_ ?_
      rotate_left
      · intro w'
        go_simp
        with_reducible rfl
      rotate_left
      · simp only [Act.put, List.setIfInBounds_toArray, List.set_cons_zero, List.set_cons_succ, i64_w, i32_w]
        rfl
      refine take_ (i := 7) (N := some 19) (v := ?_) (a' := ?_) #[true, true, true, true, true, false, true, true, true, false, false, false] rfl rfl (take_ofW HT_.out HW_.out (by kernel_rfl)) (fun _ _ _ h => h) (Or.inl ⟨by rfl, ?_⟩) hHeld ?_ ?_
      rotate_left
      · rintro w' ⟨s0, s1⟩
        try simp only [Int.toNat_natCast] at s0 s1
        go_simp
        with_reducible rfl
      rotate_left
      · simp only [Act.put, List.setIfInBounds_toArray, List.set_cons_zero, List.set_cons_succ, i64_w, i32_w]
        rfl
      refine pure_ (i := 9) (N := some 21) (v := ?_) (a' := ?_) #[true, true, true, true, true, false, true, true, true, true, false, false] rfl rfl (any_of HT_.out (by kernel_rfl)) (fun _ _ _ h => h) (Or.inl ⟨by rfl, ?_⟩) ?_ ?_
      rotate_left
      · intro w'
        go_simp
        with_reducible rfl
      rotate_left
      · simp only [Act.put, List.setIfInBounds_toArray, List.set_cons_zero, List.set_cons_succ, i64_w, i32_w]
        rfl
      refine one_ (i := 5) (N := some 17) #[true, true, true, true, true, true, true, true, true, true, false, false] rfl rfl (one_of HT_.out (by kernel_rfl)) (by decide) (fun K hK => ?_)
      refine goes_ Try.func19 (by kernel_rfl) rfl #[.agg #[.slice A0_0 l0_0.length c0_0, .int .i64 a0_1], .slice A15 y119.length c15] (by rfl) rfl rfl (by (try simp only [List.map_toArray, List.map_cons, List.map_nil]); first | done | rfl | (simp only [List.length_drop, List.length_take]; rfl)) ?_
      with_reducible refine (task_Task_with.calls _ _ l0_0 a0_1 (fun k_ => (((P0_0_ k_ ∨ w.heap.size ≤ k_) ∧ k_ ≠ gb117) ∧ k_ ≠ gb118)) _ _ y119 t124 t127 _ ?side1 ?side2 ?side3 A7.out).mono ?_
      (case side1 => repeat (first | exact (Kd.V_reads' HO0_0.out).2.2 | (with_reducible refine Kd.C_alloc ?_ _) | (with_reducible refine Kd.C_drewN ?_ _) | (with_reducible refine Kd.C_drew ?_)))
      (case side2 => exact (Kd.V_reads' HO0_0.out).2.1)
      (case side3 => exact HO123.out)
      rintro e w17 ⟨v125, rfl, ho0, hb⟩
      refine ⟨_, rfl, ?_⟩
      have n0_ := Aside0.mk (Kd.V_below (by (with_reducible repeat (first | apply Kd.V_alloc | apply Kd.V_drewN | apply Kd.V_drew)); exact HO0_0.out) hb)
      have n1_ := Aside0.mk (Kd.V_below (by (with_reducible repeat (first | apply Kd.V_alloc | apply Kd.V_drewN | apply Kd.V_drew)); exact HO123.out) hb)
      have n2_ := Aside0.mk (Kd.V_below (by (with_reducible repeat (first | apply Kd.V_alloc | apply Kd.V_drewN | apply Kd.V_drew)); exact HO132.out) hb)
      have n3_ := Aside0.mk (Kd.V_lower (Kd.V_mono (ok' := fun k_ => (P0_0_ k_ ∨ w.heap.size ≤ k_) ∧ k_ ≠ gb117 ∧ k_ ≠ gb118) ho0 (fun k_ hk_ => ⟨Or.elim hk_ (fun hs_ => hs_.1.1) (fun hn_ => (.inr (Nat.le_trans (below_size (by repeat (first | (with_reducible first | exact HB.out | apply below_alloc | apply pw_below_drewN | apply below_drew1 | refine below_set ?_ GE117.out | refine below_set ?_ GE118.out) | exact HB.out))) hn_))), Or.elim hk_ (fun hs_ => hs_.1.2) (fun hn_ => (Kd.freshB (g := gb117) (o := .cells #[.slice A0_0 l0_0.length c0_0, .int .i64 a0_1] 25 (0, 0)) (by (with_reducible repeat (first | refine blk_drewN ?_ _ | refine blk_drew ?_ | refine blk_alloc ?_ _)); exact BK117.out) k_ hn_)), Or.elim hk_ (fun hs_ => hs_.2) (fun hn_ => (Kd.freshB (g := gb118) (o := .cells #[.slice none 0 0, .int .i64 0] 25 (0, 0)) (by (with_reducible repeat (first | refine blk_drewN ?_ _ | refine blk_drew ?_ | refine blk_alloc ?_ _)); exact BK118.out) k_ hn_))⟩)) (below_size (by repeat (first | (with_reducible first | exact HB.out | apply below_alloc | apply pw_below_drewN | apply below_drew1 | refine below_set ?_ GE117.out | refine below_set ?_ GE118.out) | exact HB.out))))
      have n4_ := Aside0.mk (blk_below (g := gb117) (o := .cells #[.slice A0_0 l0_0.length c0_0, .int .i64 a0_1] 25 (0, 0)) (by (with_reducible repeat (first | refine blk_drewN ?_ _ | refine blk_drew ?_ | refine blk_alloc ?_ _)); exact BK117.out) hb)
      have n5_ := Aside0.mk (blk_below (g := gb118) (o := .cells #[.slice none 0 0, .int .i64 0] 25 (0, 0)) (by (with_reducible repeat (first | refine blk_drewN ?_ _ | refine blk_drew ?_ | refine blk_alloc ?_ _)); exact BK118.out) hb)
      have n6_ := Aside0.mk (below_step (by repeat (first | (with_reducible first | exact HB.out | apply below_alloc | apply pw_below_drewN | apply below_drew1 | refine below_set ?_ GE117.out | refine below_set ?_ GE118.out) | exact HB.out)) hb)
      clear HO0_0
      clear HO123
      clear HO132
      clear BK117
      clear BK118
      clear HB
      have HO0_0 := n0_
      have HO123 := n1_
      have HO132 := n2_
      have HO126 := n3_
      have BK117 := n4_
      have BK118 := n5_
      have HB := n6_
      clear n0_ n1_ n2_ n3_ n4_ n5_ n6_
      (try clear hb)
      (try clear hb2)
      (try clear hk)
      (try clear hi)
      (try clear ho0)
      obtain ⟨Ao18, co18, eo18⟩ := Kd.V_slice HO126.out
      (first | subst eo18 | (injection eo18 with f1_ f2_ f3_; have f4_ := f1_.symm; have f5_ := f3_.symm; clear f1_ f2_ f3_; subst f4_; subst f5_))
      refine hK.out _ _ ⟨(blk_cell BK117.out 0).trans rfl, (blk_cell BK117.out 1).trans rfl⟩ (fun hHeld => ?_)
      clear hK K
      refine norm_ (a' := ?_) ?_ ?_
      rotate_left
      · show Act.put _ (some 17) _ = _
        simp only [Act.put, List.setIfInBounds_toArray, List.set_cons_zero, List.set_cons_succ, i64_w, i32_w]
        rfl
      refine one_ (i := 10) (N := none) #[true, true, true, true, true, true, true, true, true, true, true, false] rfl rfl (one_of HT_.out (by kernel_rfl)) (by decide) (fun K hK => ?_)
      have hs19 : w17.cell? ⟨gb118, 0, none⟩ = some (.slice none 0 0) := (blk_cell BK118.out 0).trans rfl
      have hfs19 := blk_frozen BK118.out 0
      have hns19_0 := NB117_118.out
      have hms19_0 := NB118_117.out
      have hs20 : w17.cell? ⟨gb118, 1, none⟩ = some (.int .i64 0) := (blk_cell BK118.out 1).trans rfl
      have hfs20 := blk_frozen BK118.out 1
      have hns20_0 := NB117_118.out
      have hms20_0 := NB118_117.out
      refine skip_ (w1 := ?_) (by rfl) rfl ?_ ?_
      rotate_left
      · go_simp
        rfl
      refine hK.out _ _ ⟨((cell_far (p := ⟨gb118, _, none⟩) NB117_118.out _).trans (((cell_far (p := ⟨gb118, _, none⟩) NB117_118.out _).trans (hHeld.1)))), ((cell_far (p := ⟨gb118, _, none⟩) NB117_118.out _).trans (((cell_far (p := ⟨gb118, _, none⟩) NB117_118.out _).trans (hHeld.2))))⟩ (fun hHeld => ?_)
      clear hK K
      refine pure_ (i := 11) (N := some 5) (v := ?_) (a' := ?_) #[true, true, true, true, true, true, true, true, true, true, true, true] rfl rfl (any_of HT_.out (by kernel_rfl)) (fun _ _ _ h => h) (Or.inl ⟨by rfl, ?_⟩) ?_ ?_
      rotate_left
      · intro w'
        go_simp
        with_reducible rfl
      rotate_left
      · simp only [Act.put, List.setIfInBounds_toArray, List.set_cons_zero, List.set_cons_succ, i64_w, i32_w]
        rfl
      refine done_ (done_of HT_.out (by kernel_rfl)) ?_
      try go_wp2
      refine bodyPost_ret (results_ct rfl _ _ gb118 25 #[.slice Ao18 t124.length co18, .int .i64 t127] (0, 0) _ rfl (by (with_reducible repeat (first | refine blk_drewN ?_ _ | refine blk_drew ?_ | refine blk_alloc ?_ _)); refine blk_put (cs := #[.slice Ao18 t124.length co18, .int .i64 0]) ?_ 1 _ rfl; (with_reducible repeat (first | refine blk_drewN ?_ _ | refine blk_drew ?_ | refine blk_alloc ?_ _)); refine blk_put (cs := #[.slice none 0 0, .int .i64 0]) ?_ 0 _ rfl; (with_reducible repeat (first | refine blk_drewN ?_ _ | refine blk_drew ?_ | refine blk_alloc ?_ _)); exact BK118.out) Try.underlying25 rfl (by kernel_rfl)) rfl ?_
      exact ⟨_, _, by first | rfl | (simp [errW_none, errW_some] <;> rfl) | (simp only [← hji3, ← hji4]; first | rfl | (simp [errW_none, errW_some] <;> rfl)) | (simp [*, errW_none, errW_some] <;> rfl), by (with_reducible repeat (first | apply Kd.V_alloc | apply Kd.V_drewN | apply Kd.V_drew)); exact Kd.V_mono (Kd.V_far (p := ⟨gb118, 1, none⟩) (Kd.V_far (p := ⟨gb118, 0, none⟩) (Kd.V_mono HO126.out (fun k_ hk => (⟨hk, hk.2.2⟩ : _ ∧ k_ ≠ gb118))) (fun _ hk => hk.2) (.slice Ao18 t124.length co18)) (fun _ hk => hk.2) (.int .i64 t127)) (fun _ hk => hk.1.1), by (with_reducible repeat (first | apply Kd.V_alloc | apply Kd.V_drewN | apply Kd.V_drew)); exact Kd.V_mono (Kd.V_far (p := ⟨gb118, 1, none⟩) (Kd.V_far (p := ⟨gb118, 0, none⟩) (Kd.V_mono HO132.out (fun k_ hk => (⟨hk, hk.2⟩ : _ ∧ k_ ≠ gb118))) (fun _ hk => hk.2) (.slice Ao18 t124.length co18)) (fun _ hk => hk.2) (.int .i64 t127)) (fun _ hk => hk.1.1.1), by repeat (first | (with_reducible first | exact HB.out | apply below_alloc | apply pw_below_drewN | apply below_drew1 | refine below_set ?_ GE117.out | refine below_set ?_ GE118.out) | exact HB.out)⟩
    · rw [if_neg c6] at H
      exact absurd H (by simp)
  · rw [if_neg c5] at H
    exact absurd H (by simp)

/-! ### task_Task_16: function 16, by hand -/
def task_Task_16.f (l0_0 : List (S31)) (a0_1 : Int) : Option ((List (S31)) × Int × Int × Int × Int × Int) := if l0_0.length = 0 then some (l0_0, a0_1, 0, 0, 0, 10) else some (l0_0.drop 1, a0_1, (rd_T31 l0_0 0).f0, (rd_T31 l0_0 0).f1, (rd_T31 l0_0 0).f2, 0)
theorem task_Task_16.drain1 (l : List S31) (c : Int) : task_Task_20.f l c 1 = some (l.drop 1, c, l.take 1) := by
  unfold task_Task_20.f task_Task_with.f
  cases l with
  | nil =>
    have e : mx 0 (mn 1 (([] : List S31).length : Int)) = 0 := by decide
    rw [e, if_pos (by decide), if_pos (by decide)]; rfl
  | cons x l =>
    have e : mx 0 (mn 1 ((x :: l).length : Int)) = 1 := by unfold mx mn; simp only [List.length_cons]; repeat' split
                                                           all_goals omega
    rw [e, if_pos (by decide), if_pos (by simp only [List.length_cons]; omega)]; rfl
def task_Task_16.T3 : Bool × List (List Nat × List Nat) := (true, [([], []), ([], []), ([0, 0], [0]), ([1, 2, 0, 1, 2], [1]), ([3, 0, 1, 2, 3], [])])
def task_Task_16.B3 : List Nat := [0, 0, 1, 7, 15]
theorem task_Task_16.tab3 : rtab .any (opsOf Try.f16 3) = task_Task_16.T3 := by kernel_rfl
theorem task_Task_16.bits3 : waitsOk task_Task_16.T3.2 task_Task_16.B3 = true := by kernel_rfl
def task_Task_16.T4 : Bool × List (List Nat × List Nat) := (true, [([], []), ([], []), ([1], [1]), ([2], [2]), ([], []), ([0, 0], [0]), ([3, 5, 0, 1, 2, 3, 5], [3]), ([4, 6, 0, 1, 2, 3, 4, 5, 6], [4])])
def task_Task_16.B4 : List Nat := [0, 0, 2, 6, 0, 1, 47, 127]
theorem task_Task_16.tab4 : rtab .any (opsOf Try.f16 4) = task_Task_16.T4 := by kernel_rfl
theorem task_Task_16.bits4 : waitsOk task_Task_16.T4.2 task_Task_16.B4 = true := by kernel_rfl
set_option maxHeartbeats 8000000 in
set_option maxRecDepth 100000 in
theorem task_Task_16.calls (P0_0_ : Nat → Prop) (A0_0 : Option Addr) (c0_0 : Nat) (l0_0 : List (S31)) (a0_1 : Int) (r1 : List (S31)) (r2 : Int) (r3 : Int) (r4 : Int) (r5 : Int) (r6 : Int) (w : World) (hs0_0 : Kd.V k31 31 w w.heap.size (fun k_ => P0_0_ k_) (.slice A0_0 l0_0.length c0_0) l0_0) (h : task_Task_16.f l0_0 a0_1 = some (r1, r2, r3, r4, r5, r6)) :
    Calls Try.prog 16 #[.agg #[.slice A0_0 l0_0.length c0_0, .int .i64 a0_1]] w fun e w' => ∃ v0_ : Value, e = .returned (.tuple #[.agg #[v0_, .int .i64 r2], .agg #[.int .i64 r3, .int .i64 r4, .int .i64 r5], .int .i64 r6]) ∧ Kd.V k31 31 w' w.heap.size (fun k_ => (P0_0_ k_ ∨ w.heap.size ≤ k_)) v0_ r1 ∧ Below w.heap.size w w' := by
  unfold task_Task_16.f at h
  have HV := Aside0.mk hs0_0
  have HVW := Aside0.mk (show Kd.V k31 31 (((w.alloc (.cells #[.slice A0_0 l0_0.length c0_0, .int .i64 a0_1] 25)).alloc (.cells #[.slice none 0 0, .int .i64 0] 25)).alloc (.cells #[.int .i64 0, .int .i64 0, .int .i64 0] 31)) (((w.alloc (.cells #[.slice A0_0 l0_0.length c0_0, .int .i64 a0_1] 25)).alloc (.cells #[.slice none 0 0, .int .i64 0] 25)).alloc (.cells #[.int .i64 0, .int .i64 0, .int .i64 0] 31)).heap.size (fun k_ => P0_0_ k_ ∧ k_ < w.heap.size) (.slice A0_0 l0_0.length c0_0) l0_0 from Kd.V_alloc (Kd.V_alloc (Kd.V_alloc (Kd.V_bound HV.out) _) _) _)
  have HB := Aside0.mk (show Below w.heap.size w (((w.alloc (.cells #[.slice A0_0 l0_0.length c0_0, .int .i64 a0_1] 25)).alloc (.cells #[.slice none 0 0, .int .i64 0] 25)).alloc (.cells #[.int .i64 0, .int .i64 0, .int .i64 0] 31)) from ((((Below.refl _ _).alloc (Nat.le_refl _) _).alloc (by simp) _).alloc (by simp; omega) _))
  have HC := Aside0.mk (show (((w.alloc (.cells #[.slice A0_0 l0_0.length c0_0, .int .i64 a0_1] 25)).alloc (.cells #[.slice none 0 0, .int .i64 0] 25)).alloc (.cells #[.int .i64 0, .int .i64 0, .int .i64 0] 31)).heap[w.heap.size]? = some (.cells #[.slice A0_0 l0_0.length c0_0, .int .i64 a0_1] 25 (0, 0)) from blk_alloc (blk_alloc (blk_new _ _) _) _)
  have HG := Aside0.mk (show (((w.alloc (.cells #[.slice A0_0 l0_0.length c0_0, .int .i64 a0_1] 25)).alloc (.cells #[.slice none 0 0, .int .i64 0] 25)).alloc (.cells #[.int .i64 0, .int .i64 0, .int .i64 0] 31)).heap[w.heap.size + 1]? = some (.cells #[.slice none 0 0, .int .i64 0] 25 (0, 0)) from blk_alloc (by have h2 := blk_new (w.alloc (.cells #[.slice A0_0 l0_0.length c0_0, .int .i64 a0_1] 25)) (.cells #[.slice none 0 0, .int .i64 0] 25); rw [World.size_alloc] at h2; exact h2) _)
  have HX := Aside0.mk (show (((w.alloc (.cells #[.slice A0_0 l0_0.length c0_0, .int .i64 a0_1] 25)).alloc (.cells #[.slice none 0 0, .int .i64 0] 25)).alloc (.cells #[.int .i64 0, .int .i64 0, .int .i64 0] 31)).heap[w.heap.size + 1 + 1]? = some (.cells #[.int .i64 0, .int .i64 0, .int .i64 0] 31 (0, 0)) from (by have h2 := blk_new ((w.alloc (.cells #[.slice A0_0 l0_0.length c0_0, .int .i64 a0_1] 25)).alloc (.cells #[.slice none 0 0, .int .i64 0] 25)) (.cells #[.int .i64 0, .int .i64 0, .int .i64 0] 31); rw [World.size_alloc, World.size_alloc] at h2; exact h2))
  have HD := Aside0.mk (task_Task_16.drain1 l0_0 a0_1)
  have HP : Aside0 (∀ k, ((P0_0_ k ∧ k < w.heap.size) ∨ (((w.alloc (.cells #[.slice A0_0 l0_0.length c0_0, .int .i64 a0_1] 25)).alloc (.cells #[.slice none 0 0, .int .i64 0] 25)).alloc (.cells #[.int .i64 0, .int .i64 0, .int .i64 0] 31)).heap.size ≤ k) → (k ≠ w.heap.size + 1 ∧ k ≠ w.heap.size + 1 + 1) ∧ (P0_0_ k ∨ w.heap.size ≤ k)) := by
    refine ⟨fun k hk => ?_⟩
    have e : (((w.alloc (.cells #[.slice A0_0 l0_0.length c0_0, .int .i64 a0_1] 25)).alloc (.cells #[.slice none 0 0, .int .i64 0] 25)).alloc (.cells #[.int .i64 0, .int .i64 0, .int .i64 0] 31)).heap.size = w.heap.size + 3 := by simp
    rcases hk with hk | hk
    · exact ⟨⟨by have := hk.2; omega, by have := hk.2; omega⟩, .inl hk.1⟩
    · exact ⟨⟨by omega, by omega⟩, .inr (by omega)⟩
  clear hs0_0
  by_cases c3 : l0_0.length = 0
  · rw [if_pos c3] at h
    simp only [Option.some.injEq, Prod.mk.injEq] at h
    obtain ⟨rfl, rfl, rfl, rfl, rfl, rfl⟩ := h
    have h30 : (l0_0.take 1).length = 0 := by rw [List.length_take]; omega
    have H30 := Aside0.mk h30
    clear c3 h30
    go_enter Try.func16, Try.ntmps16
    go_wp2_with (go_at_call 20; (with_reducible refine (task_Task_20.calls _ A0_0 c0_0 l0_0 a0_1 1 _ _ _ _ HVW.out HD.out).mono ?_); rintro e w1 ⟨v0, v2, rfl, hv0, hv2, hb⟩; obtain ⟨A0, c0, rfl⟩ := Kd.V_slice hv0; obtain ⟨A2, c2, rfl⟩ := Kd.V_slice hv2; rw [H30.out] at *; have HVa := Aside0.mk hv0; have HVq := Aside0.mk (Kd.V_below HVW.out hb); have HB1 := Aside0.mk (HB.out.trans (hb.mono HB.out.size)); have HG1 := Aside0.mk (blk_below HG.out hb); have HC1 := Aside0.mk (blk_below HC.out hb); have HX1 := Aside0.mk (blk_below HX.out hb); clear hv0 hv2 hb; have q0 : w1.cell? ⟨w.heap.size + 1, 0, none⟩ = some (.slice none 0 0) := (blk_cell HG1.out 0).trans rfl; have q1 : w1.cell? ⟨w.heap.size + 1, 1, none⟩ = some (.int .i64 0) := (blk_cell HG1.out 1).trans rfl; have q2 := blk_frozen HG1.out 0; have q3 := blk_frozen HG1.out 1; have q4 : w1.cell? ⟨w.heap.size, 0, none⟩ = some (.slice A0_0 l0_0.length c0_0) := (blk_cell HC1.out 0).trans rfl; have q5 : w1.cell? ⟨w.heap.size, 1, none⟩ = some (.int .i64 a0_1) := (blk_cell HC1.out 1).trans rfl)
    have HVr := Aside0.mk (Kd.V_drew (Kd.V_far (p := ⟨w.heap.size + 1, 1, none⟩) (Kd.V_far (p := ⟨w.heap.size + 1, 0, none⟩) HVq.out (fun k hk => show k ≠ w.heap.size + 1 by have := hk.2; omega) (.slice A0 (l0_0.length - 1) c0)) (fun k hk => show k ≠ w.heap.size + 1 by have := hk.2; omega) (.int .i64 a0_1)))
    have HB2 := Aside0.mk (below_drew1 (below_set (j := 1) (v := .int .i64 a0_1) (below_set (j := 0) (v := .slice A0 (l0_0.length - 1) c0) HB1.out (show w.heap.size ≤ w.heap.size + 1 by omega)) (show w.heap.size ≤ w.heap.size + 1 by omega)))
    have HG2 := Aside0.mk (blk_drew (blk_put (cs := #[.slice A0 (l0_0.length - 1) c0, .int .i64 0]) (cs' := #[.slice A0 (l0_0.length - 1) c0, .int .i64 a0_1]) (blk_put (cs := #[.slice none 0 0, .int .i64 0]) HG1.out 0 (.slice A0 (l0_0.length - 1) c0) rfl) 1 (.int .i64 a0_1) rfl))
    have HC2 := Aside0.mk (blk_drew (bf (bf HC1.out 0 (.slice A0 (l0_0.length - 1) c0) (show w.heap.size + 1 ≠ w.heap.size by omega)) 1 (.int .i64 a0_1) (show w.heap.size + 1 ≠ w.heap.size by omega)))
    have HX2 := Aside0.mk (blk_drew (bf (bf HX1.out 0 (.slice A0 (l0_0.length - 1) c0) (show w.heap.size + 1 ≠ w.heap.size + 1 + 1 by omega)) 1 (.int .i64 a0_1) (show w.heap.size + 1 ≠ w.heap.size + 1 + 1 by omega)))
    clear q0 q1 q2 q3 q4 q5
    refine start_ (n := 5) (S := fun w' => w'.cell? ⟨w.heap.size, 0, none⟩ = some (.slice A0_0 l0_0.length c0_0) ∧ w'.cell? ⟨w.heap.size, 1, none⟩ = some (.int .i64 a0_1) ∧ w'.cell? ⟨w.heap.size + 1 + 1, 0, none⟩ = some (.int .i64 0) ∧ w'.cell? ⟨w.heap.size + 1 + 1, 1, none⟩ = some (.int .i64 0) ∧ w'.cell? ⟨w.heap.size + 1 + 1, 2, none⟩ = some (.int .i64 0)) (ds := []) #[false, false, false, false, false] (by kernel_rfl) rfl rfl ?_ (fun hHeld => ?_)
    · exact ⟨(blk_cell HC2.out 0).trans rfl, (blk_cell HC2.out 1).trans rfl, (blk_cell HX2.out 0).trans rfl, (blk_cell HX2.out 1).trans rfl, (blk_cell HX2.out 2).trans rfl⟩
    refine with_tabW task_Task_16.tab3 task_Task_16.bits3 (fun HT_ HW_ => ?_)
    generalize ((w1.setCell ⟨w.heap.size + 1, 0, none⟩ (.slice A0 (l0_0.length - 1) c0)).setCell ⟨w.heap.size + 1, 1, none⟩ (.int .i64 a0_1)).drew = W0 at HVr HB2 HG2 HC2 HX2 hHeld ⊢
    refine take_ (i := 0) (N := some 14) (v := ?_) (a' := ?_) #[true, false, false, false, false] rfl rfl (take_ofW HT_.out HW_.out (by kernel_rfl)) (fun _ _ _ h => h) (Or.inl ⟨by rfl, ?_⟩) hHeld ?_ ?_
    rotate_left
    · rintro w' ⟨s0, s1, s2, s3, s4⟩
      try simp only [Int.toNat_natCast] at s0 s1 s2 s3 s4
      go_simp
      with_reducible rfl
    rotate_left
    · simp only [Act.put, List.setIfInBounds_toArray, List.set_cons_zero, List.set_cons_succ, i64_w, i32_w]
      rfl
    refine take_ (i := 1) (N := some 15) (v := ?_) (a' := ?_) #[true, true, false, false, false] rfl rfl (take_ofW HT_.out HW_.out (by kernel_rfl)) (fun _ _ _ h => h) (Or.inl ⟨by rfl, ?_⟩) hHeld ?_ ?_
    rotate_left
    · rintro w' ⟨s0, s1, s2, s3, s4⟩
      try simp only [Int.toNat_natCast] at s0 s1 s2 s3 s4
      go_simp
      with_reducible rfl
    rotate_left
    · simp only [Act.put, List.setIfInBounds_toArray, List.set_cons_zero, List.set_cons_succ, i64_w, i32_w]
      rfl
    refine one_ (i := 2) (N := none) #[true, true, true, false, false] rfl rfl (one_of HT_.out (by kernel_rfl)) (by decide) (fun K hK => ?_)
    have q0 : W0.cell? ⟨w.heap.size + 1, 0, none⟩ = some (.slice A0 (l0_0.length - 1) c0) := (blk_cell HG2.out 0).trans rfl
    have q1 : W0.cell? ⟨w.heap.size + 1, 1, none⟩ = some (.int .i64 a0_1) := (blk_cell HG2.out 1).trans rfl
    have q2 := blk_frozen HG2.out 0
    have q3 := blk_frozen HG2.out 1
    refine skip_ (w1 := ?_) (by rfl) rfl ?_ ?_
    rotate_left
    · go_simp
      rfl
    have HG3 := Aside0.mk (blk_put (cs := #[.slice A0_0 l0_0.length c0_0, .int .i64 a0_1]) (cs' := #[.slice A0_0 l0_0.length c0_0, .int .i64 a0_1]) (blk_put (cs := #[.slice A0 (l0_0.length - 1) c0, .int .i64 a0_1]) HG2.out 0 (.slice A0_0 l0_0.length c0_0) rfl) 1 (.int .i64 a0_1) rfl)
    have HX3 := Aside0.mk (bf (bf HX2.out 0 (.slice A0_0 l0_0.length c0_0) (show w.heap.size + 1 ≠ w.heap.size + 1 + 1 by omega)) 1 (.int .i64 a0_1) (show w.heap.size + 1 ≠ w.heap.size + 1 + 1 by omega))
    have HC3 := Aside0.mk (bf (bf HC2.out 0 (.slice A0_0 l0_0.length c0_0) (show w.heap.size + 1 ≠ w.heap.size by omega)) 1 (.int .i64 a0_1) (show w.heap.size + 1 ≠ w.heap.size by omega))
    refine hK.out _ _ ⟨(blk_cell HC3.out 0).trans rfl, (blk_cell HC3.out 1).trans rfl, (blk_cell HX3.out 0).trans rfl, (blk_cell HX3.out 1).trans rfl, (blk_cell HX3.out 2).trans rfl⟩ (fun hHeld4 => ?_)
    clear hK K q0 q1 q2 q3
    refine one_ (i := 3) (N := none) #[true, true, true, true, false] rfl rfl (one_of HT_.out (by kernel_rfl)) (by decide) (fun K hK => ?_)
    obtain ⟨W3, hW3⟩ : ∃ W3, (W0.setCell ⟨w.heap.size + 1, 0, none⟩ (.slice A0_0 l0_0.length c0_0)).setCell ⟨w.heap.size + 1, 1, none⟩ (.int .i64 a0_1) = W3 := ⟨_, rfl⟩
    rw [hW3] at hHeld4 HG3 HX3 HC3 ⊢
    have q0 : W3.cell? ⟨w.heap.size + 1 + 1, 0, none⟩ = some (.int .i64 0) := (blk_cell HX3.out 0).trans rfl
    have q1 : W3.cell? ⟨w.heap.size + 1 + 1, 1, none⟩ = some (.int .i64 0) := (blk_cell HX3.out 1).trans rfl
    have q4 : W3.cell? ⟨w.heap.size + 1 + 1, 2, none⟩ = some (.int .i64 0) := (blk_cell HX3.out 2).trans rfl
    have q2 := blk_frozen HX3.out 0
    have q3 := blk_frozen HX3.out 1
    have q5 := blk_frozen HX3.out 2
    refine skip_ (w1 := ?_) (by rfl) rfl ?_ ?_
    rotate_left
    · go_simp
      rfl
    have HX4 := Aside0.mk (blk_put (cs := #[.int .i64 0, .int .i64 0, .int .i64 0]) (cs' := #[.int .i64 0, .int .i64 0, .int .i64 0]) (blk_put (cs := #[.int .i64 0, .int .i64 0, .int .i64 0]) (cs' := #[.int .i64 0, .int .i64 0, .int .i64 0]) (blk_put (cs := #[.int .i64 0, .int .i64 0, .int .i64 0]) (cs' := #[.int .i64 0, .int .i64 0, .int .i64 0]) HX3.out 0 (.int .i64 0) rfl) 1 (.int .i64 0) rfl) 2 (.int .i64 0) rfl)
    have HG4 := Aside0.mk (bf (bf (bf HG3.out 0 (.int .i64 0) (show w.heap.size + 1 + 1 ≠ w.heap.size + 1 by omega)) 1 (.int .i64 0) (show w.heap.size + 1 + 1 ≠ w.heap.size + 1 by omega)) 2 (.int .i64 0) (show w.heap.size + 1 + 1 ≠ w.heap.size + 1 by omega))
    have HC4 := Aside0.mk (bf (bf (bf HC3.out 0 (.int .i64 0) (show w.heap.size + 1 + 1 ≠ w.heap.size by omega)) 1 (.int .i64 0) (show w.heap.size + 1 + 1 ≠ w.heap.size by omega)) 2 (.int .i64 0) (show w.heap.size + 1 + 1 ≠ w.heap.size by omega))
    refine hK.out _ _ ⟨(blk_cell HC4.out 0).trans rfl, (blk_cell HC4.out 1).trans rfl, (blk_cell HX4.out 0).trans rfl, (blk_cell HX4.out 1).trans rfl, (blk_cell HX4.out 2).trans rfl⟩ (fun hHeld5 => ?_)
    clear hK K
    refine pure_ (i := 4) (N := some 4) (v := ?_) (a' := ?_) #[true, true, true, true, true] rfl rfl (any_of HT_.out (by kernel_rfl)) (fun _ _ _ h => h) (Or.inl ⟨by rfl, ?_⟩) ?_ ?_
    rotate_left
    · intro w'
      go_simp
      with_reducible rfl
    rotate_left
    · simp only [Act.put, List.setIfInBounds_toArray, List.set_cons_zero, List.set_cons_succ, i64_w, i32_w]
      rfl
    refine done_ (done_of HT_.out (by kernel_rfl)) ?_
    try go_wp2
    refine bodyPost_ret (results_cct rfl _ _ (w.heap.size + 1) (w.heap.size + 1 + 1) 25 31 #[.slice A0_0 l0_0.length c0_0, .int .i64 a0_1] #[.int .i64 0, .int .i64 0, .int .i64 0] (0, 0) (0, 0) _ _ rfl HG4.out Try.underlying25 rfl (by kernel_rfl) rfl HX4.out Try.underlying31 rfl (by kernel_rfl)) rfl ?_
    subst hW3
    refine ⟨_, rfl, Kd.V_mono (Kd.V_far (p := ⟨w.heap.size + 1 + 1, 2, none⟩) (Kd.V_far (p := ⟨w.heap.size + 1 + 1, 1, none⟩) (Kd.V_far (p := ⟨w.heap.size + 1 + 1, 0, none⟩) (Kd.V_far (p := ⟨w.heap.size + 1, 1, none⟩) (Kd.V_far (p := ⟨w.heap.size + 1, 0, none⟩) HVr.out (fun k hk => ?_) _) (fun k hk => ?_) _) (fun k hk => ?_) _) (fun k hk => ?_) _) (fun k hk => ?_) _) (fun k hk => .inl hk.1), below_set (below_set (below_set (below_set (below_set HB2.out (by omega)) (by omega)) (by omega)) (by omega)) (by omega)⟩
    · show k ≠ w.heap.size + 1; have := hk.2; omega
    · show k ≠ w.heap.size + 1; have := hk.2; omega
    · show k ≠ w.heap.size + 1 + 1; have := hk.2; omega
    · show k ≠ w.heap.size + 1 + 1; have := hk.2; omega
    · show k ≠ w.heap.size + 1 + 1; have := hk.2; omega
  · rw [if_neg c3] at h
    simp only [Option.some.injEq, Prod.mk.injEq] at h
    obtain ⟨rfl, rfl, rfl, rfl, rfl, rfl⟩ := h
    have H34 := Aside0.mk (show 0 < l0_0.length by omega)
    have H31 := Aside0.mk (show (l0_0.take 1).length = 1 by rw [List.length_take]; omega)
    have H32 := Aside0.mk (show rd_T31 (l0_0.take 1) 0 = rd_T31 l0_0 0 by unfold rd_T31; cases l0_0 with | nil => rfl | cons x l => rfl)
    clear c3
    go_enter Try.func16, Try.ntmps16
    go_wp2_with (go_at_call 20; (with_reducible refine (task_Task_20.calls _ A0_0 c0_0 l0_0 a0_1 1 _ _ _ _ HVW.out HD.out).mono ?_); rintro e w1 ⟨v0, v2, rfl, hv0, hv2, hb⟩; obtain ⟨A0, c0, rfl⟩ := Kd.V_slice hv0; obtain ⟨A2, c2, rfl⟩ := Kd.V_slice hv2; rw [H31.out] at *; have HVa := Aside0.mk (Kd.V_mono hv0 HP.out); have HV2 := Aside0.mk (Kd.V_mono hv2 HP.out); have HVq := Aside0.mk (Kd.V_below HVW.out hb); have HB1 := Aside0.mk (HB.out.trans (hb.mono HB.out.size)); have HG1 := Aside0.mk (blk_below HG.out hb); have HC1 := Aside0.mk (blk_below HC.out hb); have HX1 := Aside0.mk (blk_below HX.out hb); clear hv0 hv2 hb; have q0 : w1.cell? ⟨w.heap.size + 1, 0, none⟩ = some (.slice none 0 0) := (blk_cell HG1.out 0).trans rfl; have q1 : w1.cell? ⟨w.heap.size + 1, 1, none⟩ = some (.int .i64 0) := (blk_cell HG1.out 1).trans rfl; have q2 := blk_frozen HG1.out 0; have q3 := blk_frozen HG1.out 1; have q4 : w1.cell? ⟨w.heap.size, 0, none⟩ = some (.slice A0_0 l0_0.length c0_0) := (blk_cell HC1.out 0).trans rfl; have q5 : w1.cell? ⟨w.heap.size, 1, none⟩ = some (.int .i64 a0_1) := (blk_cell HC1.out 1).trans rfl)
    rw [List.length_drop] at *
    have HV3 := Aside0.mk (Kd.V_drew (Kd.V_far (p := ⟨w.heap.size + 1, 1, none⟩) (Kd.V_far (p := ⟨w.heap.size + 1, 0, none⟩) HV2.out (fun k hk => hk.1.1) (.slice A0 (l0_0.length - 1) c0)) (fun k hk => hk.1.1) (.int .i64 a0_1)))
    have HVb := Aside0.mk (Kd.V_drew (Kd.V_far (p := ⟨w.heap.size + 1, 1, none⟩) (Kd.V_far (p := ⟨w.heap.size + 1, 0, none⟩) HVa.out (fun k hk => hk.1.1) (.slice A0 (l0_0.length - 1) c0)) (fun k hk => hk.1.1) (.int .i64 a0_1)))
    have HB2 := Aside0.mk (below_drew1 (below_set (j := 1) (v := .int .i64 a0_1) (below_set (j := 0) (v := .slice A0 (l0_0.length - 1) c0) HB1.out (show w.heap.size ≤ w.heap.size + 1 by omega)) (show w.heap.size ≤ w.heap.size + 1 by omega)))
    have HG2 := Aside0.mk (blk_drew (blk_put (cs := #[.slice A0 (l0_0.length - 1) c0, .int .i64 0]) (cs' := #[.slice A0 (l0_0.length - 1) c0, .int .i64 a0_1]) (blk_put (cs := #[.slice none 0 0, .int .i64 0]) HG1.out 0 (.slice A0 (l0_0.length - 1) c0) rfl) 1 (.int .i64 a0_1) rfl))
    have HC2 := Aside0.mk (blk_drew (bf (bf HC1.out 0 (.slice A0 (l0_0.length - 1) c0) (show w.heap.size + 1 ≠ w.heap.size by omega)) 1 (.int .i64 a0_1) (show w.heap.size + 1 ≠ w.heap.size by omega)))
    have HX2 := Aside0.mk (blk_drew (bf (bf HX1.out 0 (.slice A0 (l0_0.length - 1) c0) (show w.heap.size + 1 ≠ w.heap.size + 1 + 1 by omega)) 1 (.int .i64 a0_1) (show w.heap.size + 1 ≠ w.heap.size + 1 + 1 by omega)))
    obtain ⟨ad, e, hc, hc', hc''⟩ := at_T31 (Kd.V_reads' HV3.out).2.2 0 (by decide) (by rw [List.length_take]; have := H34.out; omega)
    cases e
    rw [H32.out] at hc hc' hc''
    rw [show ad.add (Int.toNat 0 * 3) = ad from rfl] at hc hc' hc''
    have HC2' := Aside0.mk hc
    have HC3' := Aside0.mk hc'
    have HC4' := Aside0.mk hc''
    clear hc hc' hc'' q0 q1 q2 q3 q4 q5
    refine start_ (n := 8) (S := fun w' => w'.cell? ⟨w.heap.size + 1, 0, none⟩ = some (.slice A0 (l0_0.length - 1) c0) ∧ w'.cell? ⟨w.heap.size + 1, 1, none⟩ = some (.int .i64 a0_1) ∧ w'.cell? ad = some (.int .i64 (rd_T31 l0_0 0).f0) ∧ w'.cell? ⟨ad.block, ad.off + 1, none⟩ = some (.int .i64 (rd_T31 l0_0 0).f1) ∧ w'.cell? ⟨ad.block, ad.off + 2, none⟩ = some (.int .i64 (rd_T31 l0_0 0).f2)) (ds := []) #[false, false, false, false, false, false, false, false] (by kernel_rfl) rfl rfl ?_ (fun hHeld => ?_)
    · exact ⟨(blk_cell HG2.out 0).trans rfl, (blk_cell HG2.out 1).trans rfl, HC2'.out, HC3'.out, HC4'.out⟩
    refine with_tabW task_Task_16.tab4 task_Task_16.bits4 (fun HT_ HW_ => ?_)
    generalize ((w1.setCell ⟨w.heap.size + 1, 0, none⟩ (.slice A0 (l0_0.length - 1) c0)).setCell ⟨w.heap.size + 1, 1, none⟩ (.int .i64 a0_1)).drew = W0 at HV3 HVb HB2 HG2 HC2 HX2 HC2' HC3' HC4' hHeld ⊢
    have HAD := Aside0.mk (show ad.block ≠ w.heap.size + 1 ∧ ad.block ≠ w.heap.size + 1 + 1 from v_away HV3.out (fun k hk => hk.1) (by rw [List.length_take]; have := H34.out; omega))
    refine pure_ (i := 1) (N := some 17) (v := ?_) (a' := ?_) #[false, true, false, false, false, false, false, false] rfl rfl (any_of HT_.out (by kernel_rfl)) (fun _ _ _ h => h) (Or.inl ⟨by rfl, ?_⟩) ?_ ?_
    rotate_left
    · intro w'
      go_simp
      with_reducible rfl
    rotate_left
    · simp only [Act.put, List.setIfInBounds_toArray, List.set_cons_zero, List.set_cons_succ, i64_w, i32_w]
      rfl
    refine pure_ (i := 2) (N := some 18) (v := ?_) (a' := ?_) #[false, true, true, false, false, false, false, false] rfl rfl (any_of HT_.out (by kernel_rfl)) (fun _ _ _ h => h) (Or.inl ⟨by rfl, ?_⟩) ?_ ?_
    rotate_left
    · intro w'
      go_simp
      with_reducible rfl
    rotate_left
    · simp only [Act.put, List.setIfInBounds_toArray, List.set_cons_zero, List.set_cons_succ, i64_w, i32_w]
      rfl
    refine pure_ (i := 4) (N := some 20) (v := ?_) (a' := ?_) #[false, true, true, false, true, false, false, false] rfl rfl (any_of HT_.out (by kernel_rfl)) (fun _ _ _ h => h) (Or.inl ⟨by rfl, ?_⟩) ?_ ?_
    rotate_left
    · intro w'
      go_simp
      with_reducible rfl
    rotate_left
    · simp only [Act.put, List.setIfInBounds_toArray, List.set_cons_zero, List.set_cons_succ, i64_w, i32_w]
      rfl
    refine take_ (i := 0) (N := some 16) (v := ?_) (a' := ?_) #[true, true, true, false, true, false, false, false] rfl rfl (take_ofW HT_.out HW_.out (by kernel_rfl)) (fun _ _ _ h => h) (Or.inl ⟨by rfl, ?_⟩) hHeld ?_ ?_
    rotate_left
    · rintro w' ⟨s0, s1, s2, s3, s4⟩
      try simp only [Int.toNat_natCast] at s0 s1 s2 s3 s4
      go_simp
      with_reducible rfl
    rotate_left
    · simp only [Act.put, List.setIfInBounds_toArray, List.set_cons_zero, List.set_cons_succ, i64_w, i32_w]
      rfl
    refine take_ (i := 3) (N := some 19) (v := ?_) (a' := ?_) #[true, true, true, true, true, false, false, false] rfl rfl (take_ofW HT_.out HW_.out (by kernel_rfl)) (fun _ _ _ h => h) (Or.inl ⟨by rfl, ?_⟩) hHeld ?_ ?_
    rotate_left
    · rintro w' ⟨s0, s1, s2, s3, s4⟩
      try simp only [Int.toNat_natCast] at s0 s1 s2 s3 s4
      go_simp
      with_reducible rfl
    rotate_left
    · simp only [Act.put, List.setIfInBounds_toArray, List.set_cons_zero, List.set_cons_succ, i64_w, i32_w]
      rfl
    refine one_ (i := 5) (N := none) #[true, true, true, true, true, true, false, false] rfl rfl (one_of HT_.out (by kernel_rfl)) (by decide) (fun K hK => ?_)
    have q0 : W0.cell? ⟨w.heap.size + 1, 0, none⟩ = some (.slice A0 (l0_0.length - 1) c0) := (blk_cell HG2.out 0).trans rfl
    have q1 : W0.cell? ⟨w.heap.size + 1, 1, none⟩ = some (.int .i64 a0_1) := (blk_cell HG2.out 1).trans rfl
    have q2 := blk_frozen HG2.out 0
    have q3 := blk_frozen HG2.out 1
    refine skip_ (w1 := ?_) (by rfl) rfl ?_ ?_
    rotate_left
    · go_simp
      rfl
    have HG3 := Aside0.mk (blk_put (cs := #[.slice A0 (l0_0.length - 1) c0, .int .i64 a0_1]) (cs' := #[.slice A0 (l0_0.length - 1) c0, .int .i64 a0_1]) (blk_put (cs := #[.slice A0 (l0_0.length - 1) c0, .int .i64 a0_1]) HG2.out 0 (.slice A0 (l0_0.length - 1) c0) rfl) 1 (.int .i64 a0_1) rfl)
    have HX3 := Aside0.mk (bf (bf HX2.out 0 (.slice A0 (l0_0.length - 1) c0) (show w.heap.size + 1 ≠ w.heap.size + 1 + 1 by omega)) 1 (.int .i64 a0_1) (show w.heap.size + 1 ≠ w.heap.size + 1 + 1 by omega))
    refine hK.out _ _ ⟨(blk_cell HG3.out 0).trans rfl, (blk_cell HG3.out 1).trans rfl, far2 HC2'.out (Ne.symm HAD.out.1) _ _ _ _, far2 HC3'.out (Ne.symm HAD.out.1) _ _ _ _, far2 HC4'.out (Ne.symm HAD.out.1) _ _ _ _⟩ (fun hHeld4 => ?_)
    clear hK K q0 q1 q2 q3
    refine one_ (i := 6) (N := none) #[true, true, true, true, true, true, true, false] rfl rfl (one_of HT_.out (by kernel_rfl)) (by decide) (fun K hK => ?_)
    obtain ⟨W3, hW3⟩ : ∃ W3, (W0.setCell ⟨w.heap.size + 1, 0, none⟩ (.slice A0 (l0_0.length - 1) c0)).setCell ⟨w.heap.size + 1, 1, none⟩ (.int .i64 a0_1) = W3 := ⟨_, rfl⟩
    rw [hW3] at hHeld4 HG3 HX3 ⊢
    have q0 : W3.cell? ⟨w.heap.size + 1 + 1, 0, none⟩ = some (.int .i64 0) := (blk_cell HX3.out 0).trans rfl
    have q1 : W3.cell? ⟨w.heap.size + 1 + 1, 1, none⟩ = some (.int .i64 0) := (blk_cell HX3.out 1).trans rfl
    have q4 : W3.cell? ⟨w.heap.size + 1 + 1, 2, none⟩ = some (.int .i64 0) := (blk_cell HX3.out 2).trans rfl
    have q2 := blk_frozen HX3.out 0
    have q3 := blk_frozen HX3.out 1
    have q5 := blk_frozen HX3.out 2
    refine skip_ (w1 := ?_) (by rfl) rfl ?_ ?_
    rotate_left
    · go_simp
      rfl
    have HX4 := Aside0.mk (blk_put (cs := #[.int .i64 (rd_T31 l0_0 0).f0, .int .i64 (rd_T31 l0_0 0).f1, .int .i64 0]) (cs' := #[.int .i64 (rd_T31 l0_0 0).f0, .int .i64 (rd_T31 l0_0 0).f1, .int .i64 (rd_T31 l0_0 0).f2]) (blk_put (cs := #[.int .i64 (rd_T31 l0_0 0).f0, .int .i64 0, .int .i64 0]) (cs' := #[.int .i64 (rd_T31 l0_0 0).f0, .int .i64 (rd_T31 l0_0 0).f1, .int .i64 0]) (blk_put (cs := #[.int .i64 0, .int .i64 0, .int .i64 0]) (cs' := #[.int .i64 (rd_T31 l0_0 0).f0, .int .i64 0, .int .i64 0]) HX3.out 0 (.int .i64 (rd_T31 l0_0 0).f0) rfl) 1 (.int .i64 (rd_T31 l0_0 0).f1) rfl) 2 (.int .i64 (rd_T31 l0_0 0).f2) rfl)
    have HG4 := Aside0.mk (bf (bf (bf HG3.out 0 (.int .i64 (rd_T31 l0_0 0).f0) (show w.heap.size + 1 + 1 ≠ w.heap.size + 1 by omega)) 1 (.int .i64 (rd_T31 l0_0 0).f1) (show w.heap.size + 1 + 1 ≠ w.heap.size + 1 by omega)) 2 (.int .i64 (rd_T31 l0_0 0).f2) (show w.heap.size + 1 + 1 ≠ w.heap.size + 1 by omega))
    refine hK.out _ _ ⟨(blk_cell HG4.out 0).trans rfl, (blk_cell HG4.out 1).trans rfl, far3 hHeld4.2.2.1 (Ne.symm HAD.out.2) _ _ _ _ _ _, far3 hHeld4.2.2.2.1 (Ne.symm HAD.out.2) _ _ _ _ _ _, far3 hHeld4.2.2.2.2 (Ne.symm HAD.out.2) _ _ _ _ _ _⟩ (fun hHeld5 => ?_)
    clear hK K
    refine pure_ (i := 7) (N := some 4) (v := ?_) (a' := ?_) #[true, true, true, true, true, true, true, true] rfl rfl (any_of HT_.out (by kernel_rfl)) (fun _ _ _ h => h) (Or.inl ⟨by rfl, ?_⟩) ?_ ?_
    rotate_left
    · intro w'
      go_simp
      with_reducible rfl
    rotate_left
    · simp only [Act.put, List.setIfInBounds_toArray, List.set_cons_zero, List.set_cons_succ, i64_w, i32_w]
      rfl
    refine done_ (done_of HT_.out (by kernel_rfl)) ?_
    try go_wp2
    refine bodyPost_ret (results_cct rfl _ _ (w.heap.size + 1) (w.heap.size + 1 + 1) 25 31 #[.slice A0 (l0_0.length - 1) c0, .int .i64 a0_1] #[.int .i64 (rd_T31 l0_0 0).f0, .int .i64 (rd_T31 l0_0 0).f1, .int .i64 (rd_T31 l0_0 0).f2] (0, 0) (0, 0) _ _ rfl HG4.out Try.underlying25 rfl (by kernel_rfl) rfl HX4.out Try.underlying31 rfl (by kernel_rfl)) rfl ?_
    subst hW3
    exact ⟨_, rfl, Kd.V_mono (Kd.V_far (p := ⟨w.heap.size + 1 + 1, 2, none⟩) (Kd.V_far (p := ⟨w.heap.size + 1 + 1, 1, none⟩) (Kd.V_far (p := ⟨w.heap.size + 1 + 1, 0, none⟩) (Kd.V_far (p := ⟨w.heap.size + 1, 1, none⟩) (Kd.V_far (p := ⟨w.heap.size + 1, 0, none⟩) HVb.out (fun k hk => hk.1.1) _) (fun k hk => hk.1.1) _) (fun k hk => hk.1.2) _) (fun k hk => hk.1.2) _) (fun k hk => hk.1.2) _) (fun k hk => hk.2), below_set (below_set (below_set (below_set (below_set HB2.out (by omega)) (by omega)) (by omega)) (by omega)) (by omega)⟩
/-! ### task_Next: function 9 -/
def task_Next.f (l0_0 : List (S31)) (a0_1 : Int) : Option ((List (S31)) × Int × Int × Int × Int × Int) := (task_Task_16.f l0_0 a0_1).bind fun bt136 => (some (bt136.1, bt136.2.1, bt136.2.2.1, bt136.2.2.2.1, bt136.2.2.2.2.1, bt136.2.2.2.2.2))
set_option maxHeartbeats 8000000 in
set_option maxRecDepth 100000 in
theorem task_Next.calls (P0_0_ : Nat → Prop) (A0_0 : Option Addr) (c0_0 : Nat) (l0_0 : List (S31)) (a0_1 : Int) (r1 : List (S31)) (r2 : Int) (r3 : Int) (r4 : Int) (r5 : Int) (r6 : Int) (w : World) (hs0_0 : Kd.V k31 31 w w.heap.size (fun k_ => P0_0_ k_) (.slice A0_0 l0_0.length c0_0) l0_0) (h : task_Next.f l0_0 a0_1 = some (r1, r2, r3, r4, r5, r6)) :
    Calls Try.prog 9 #[.agg #[.slice A0_0 l0_0.length c0_0, .int .i64 a0_1]] w fun e w' => ∃ v0_ : Value, e = .returned (.tuple #[.agg #[v0_, .int .i64 r2], .agg #[.int .i64 r3, .int .i64 r4, .int .i64 r5], .int .i64 r6]) ∧ Kd.V k31 31 w' w.heap.size (fun k_ => (P0_0_ k_ ∨ w.heap.size ≤ k_)) v0_ r1 ∧ Below w.heap.size w w' := by
  have hu25 := Try.underlying25
  have hu31 := Try.underlying31
  have HO0_0 := Aside0.mk (show Kd.V k31 31 w w.heap.size (fun k_ => (P0_0_ k_ ∨ w.heap.size ≤ k_)) (.slice A0_0 l0_0.length c0_0) l0_0 from Kd.V_mono hs0_0 (fun k_ hk => .inl hk))
  have HB := Aside0.mk (Below.refl w.heap.size w)
  have H : ((task_Task_16.f l0_0 a0_1).bind fun bt136 => (some (bt136.1, bt136.2.1, bt136.2.2.1, bt136.2.2.2.1, bt136.2.2.2.2.1, bt136.2.2.2.2.2))) = some (r1, r2, r3, r4, r5, r6) := h
  clear h
  replace H := Option.bind_eq_some_iff.mp H
  obtain ⟨⟨t136, t139, t140, t141, t142, t143⟩, A20, H⟩ := H
  replace H : (some (t136, t139, t140, t141, t142, t143)) = some (r1, r2, r3, r4, r5, r6) := H
  have A2 := Aside0.mk A20
  clear A20
  simp only [Option.some.injEq, Prod.mk.injEq] at H
  obtain ⟨rfl, rfl, rfl, rfl, rfl, rfl⟩ := H
  go_enter Try.func9, Try.ntmps9
  go_wp2_with (first | ((with_reducible refine gate_dst (N := 1) rfl ?_); refine box_event ?hg (N := 1) ?hd (cs := #[.slice A0_0 l0_0.length c0_0, .int .i64 a0_1]) (t := 25) ?hr ?_; (case hd => rfl); (case hg => rfl); (case hr => first | (go_simp; done) | (go_simp; rfl)); intro gb133 hg w3 hbox hb; have n0_ := Aside0.mk (Kd.V_below (Kd.V_elderB (by (with_reducible repeat (first | apply Kd.V_alloc | apply Kd.V_drewN | apply Kd.V_drew)); exact HO0_0.out) gb133 (Nat.le_of_eq hg.symm)) hb); have n1_ := Aside0.mk (below_step (by repeat (first | (with_reducible first | exact HB.out | apply below_alloc | apply pw_below_drewN | apply below_drew1) | exact HB.out)) hb); have n2_ := Aside0.mk (hbox); have n3_ := Aside0.mk ((by rw [hg]; exact (below_size (by repeat (first | (with_reducible first | exact HB.out | apply below_alloc | apply pw_below_drewN | apply below_drew1) | exact HB.out))) : w.heap.size ≤ gb133)); have n4_ := Aside0.mk ((by rw [hg]; exact (below_size (by repeat (first | (with_reducible first | exact HB.out | apply below_alloc | apply pw_below_drewN | apply below_drew1) | exact HB.out))) : w.heap.size ≤ gb133)); clear HO0_0; clear HB; have HO0_0 := n0_; have HB := n1_; have BK133 := n2_; have GW133 := n3_; have GE133 := n4_; clear n0_ n1_ n2_ n3_ n4_; clear hb hbox hg) | ((with_reducible refine gate_dst (N := 2) rfl ?_); refine box_event ?hg (N := 2) ?hd (cs := #[.slice none 0 0, .int .i64 0]) (t := 25) ?hr ?_; (case hd => rfl); (case hg => rfl); (case hr => first | (go_simp; done) | (go_simp; rfl)); intro gb134 hg w4 hbox hb; have n0_ := Aside0.mk (Kd.V_below (Kd.V_elderB (by (with_reducible repeat (first | apply Kd.V_alloc | apply Kd.V_drewN | apply Kd.V_drew)); exact HO0_0.out) gb134 (Nat.le_of_eq hg.symm)) hb); have n1_ := Aside0.mk (blk_below (g := gb133) (o := .cells #[.slice A0_0 l0_0.length c0_0, .int .i64 a0_1] 25 (0, 0)) (by (with_reducible repeat (first | refine blk_drewN ?_ _ | refine blk_drew ?_ | refine blk_alloc ?_ _)); exact BK133.out) hb); have n2_ := Aside0.mk (below_step (by repeat (first | (with_reducible first | exact HB.out | apply below_alloc | apply pw_below_drewN | apply below_drew1 | refine below_set ?_ GE133.out) | exact HB.out)) hb); have n3_ := Aside0.mk (hbox); have n4_ := Aside0.mk ((by rw [hg]; exact (below_size (by repeat (first | (with_reducible first | exact HB.out | apply below_alloc | apply pw_below_drewN | apply below_drew1 | refine below_set ?_ GE133.out) | exact HB.out))) : w.heap.size ≤ gb134)); have n5_ := Aside0.mk ((by rw [hg]; exact (below_size (by repeat (first | (with_reducible first | exact HB.out | apply below_alloc | apply pw_below_drewN | apply below_drew1 | refine below_set ?_ GE133.out) | exact HB.out))) : w.heap.size ≤ gb134)); have n6_ := Aside0.mk ((by rw [hg]; exact Nat.ne_of_lt (blk_lt (g := gb133) (o := .cells #[.slice A0_0 l0_0.length c0_0, .int .i64 a0_1] 25 (0, 0)) (by (with_reducible repeat (first | refine blk_drewN ?_ _ | refine blk_drew ?_ | refine blk_alloc ?_ _)); exact BK133.out)) : gb133 ≠ gb134)); have n7_ := Aside0.mk ((by rw [hg]; exact Nat.ne_of_gt (blk_lt (g := gb133) (o := .cells #[.slice A0_0 l0_0.length c0_0, .int .i64 a0_1] 25 (0, 0)) (by (with_reducible repeat (first | refine blk_drewN ?_ _ | refine blk_drew ?_ | refine blk_alloc ?_ _)); exact BK133.out)) : gb134 ≠ gb133)); clear HO0_0; clear BK133; clear HB; have HO0_0 := n0_; have BK133 := n1_; have HB := n2_; have BK134 := n3_; have GW134 := n4_; have GE134 := n5_; have NB133_134 := n6_; have NB134_133 := n7_; clear n0_ n1_ n2_ n3_ n4_ n5_ n6_ n7_; clear hb hbox hg) | ((with_reducible refine gate_dst (N := 3) rfl ?_); refine box_event ?hg (N := 3) ?hd (cs := #[.int .i64 0, .int .i64 0, .int .i64 0]) (t := 31) ?hr ?_; (case hd => rfl); (case hg => rfl); (case hr => first | (go_simp; done) | (go_simp; rfl)); intro gb135 hg w5 hbox hb; have n0_ := Aside0.mk (Kd.V_below (Kd.V_elderB (by (with_reducible repeat (first | apply Kd.V_alloc | apply Kd.V_drewN | apply Kd.V_drew)); exact HO0_0.out) gb135 (Nat.le_of_eq hg.symm)) hb); have n1_ := Aside0.mk (blk_below (g := gb133) (o := .cells #[.slice A0_0 l0_0.length c0_0, .int .i64 a0_1] 25 (0, 0)) (by (with_reducible repeat (first | refine blk_drewN ?_ _ | refine blk_drew ?_ | refine blk_alloc ?_ _)); exact BK133.out) hb); have n2_ := Aside0.mk (blk_below (g := gb134) (o := .cells #[.slice none 0 0, .int .i64 0] 25 (0, 0)) (by (with_reducible repeat (first | refine blk_drewN ?_ _ | refine blk_drew ?_ | refine blk_alloc ?_ _)); exact BK134.out) hb); have n3_ := Aside0.mk (below_step (by repeat (first | (with_reducible first | exact HB.out | apply below_alloc | apply pw_below_drewN | apply below_drew1 | refine below_set ?_ GE133.out | refine below_set ?_ GE134.out) | exact HB.out)) hb); have n4_ := Aside0.mk (hbox); have n5_ := Aside0.mk ((by rw [hg]; exact (below_size (by repeat (first | (with_reducible first | exact HB.out | apply below_alloc | apply pw_below_drewN | apply below_drew1 | refine below_set ?_ GE133.out | refine below_set ?_ GE134.out) | exact HB.out))) : w.heap.size ≤ gb135)); have n6_ := Aside0.mk ((by rw [hg]; exact (below_size (by repeat (first | (with_reducible first | exact HB.out | apply below_alloc | apply pw_below_drewN | apply below_drew1 | refine below_set ?_ GE133.out | refine below_set ?_ GE134.out) | exact HB.out))) : w.heap.size ≤ gb135)); have n7_ := Aside0.mk ((by rw [hg]; exact Nat.ne_of_lt (blk_lt (g := gb133) (o := .cells #[.slice A0_0 l0_0.length c0_0, .int .i64 a0_1] 25 (0, 0)) (by (with_reducible repeat (first | refine blk_drewN ?_ _ | refine blk_drew ?_ | refine blk_alloc ?_ _)); exact BK133.out)) : gb133 ≠ gb135)); have n8_ := Aside0.mk ((by rw [hg]; exact Nat.ne_of_gt (blk_lt (g := gb133) (o := .cells #[.slice A0_0 l0_0.length c0_0, .int .i64 a0_1] 25 (0, 0)) (by (with_reducible repeat (first | refine blk_drewN ?_ _ | refine blk_drew ?_ | refine blk_alloc ?_ _)); exact BK133.out)) : gb135 ≠ gb133)); have n9_ := Aside0.mk ((by rw [hg]; exact Nat.ne_of_lt (blk_lt (g := gb134) (o := .cells #[.slice none 0 0, .int .i64 0] 25 (0, 0)) (by (with_reducible repeat (first | refine blk_drewN ?_ _ | refine blk_drew ?_ | refine blk_alloc ?_ _)); exact BK134.out)) : gb134 ≠ gb135)); have n10_ := Aside0.mk ((by rw [hg]; exact Nat.ne_of_gt (blk_lt (g := gb134) (o := .cells #[.slice none 0 0, .int .i64 0] 25 (0, 0)) (by (with_reducible repeat (first | refine blk_drewN ?_ _ | refine blk_drew ?_ | refine blk_alloc ?_ _)); exact BK134.out)) : gb135 ≠ gb134)); clear HO0_0; clear BK133; clear BK134; clear HB; have HO0_0 := n0_; have BK133 := n1_; have BK134 := n2_; have HB := n3_; have BK135 := n4_; have GW135 := n5_; have GE135 := n6_; have NB133_135 := n7_; have NB135_133 := n8_; have NB134_135 := n9_; have NB135_134 := n10_; clear n0_ n1_ n2_ n3_ n4_ n5_ n6_ n7_ n8_ n9_ n10_; clear hb hbox hg; have hnb6 := NB133_134.out; have hnc6 := NB134_133.out; have hnb7 := NB133_135.out; have hnc7 := NB135_133.out; have hcz8_0 : w5.cell? ⟨gb133, 0, none⟩ = some (.slice A0_0 l0_0.length c0_0) := (blk_cell BK133.out 0).trans rfl; have hcz8_1 : w5.cell? ⟨gb133, 1, none⟩ = some (.int .i64 a0_1) := (blk_cell BK133.out 1).trans rfl; have hfz8_0 := blk_frozen BK133.out 0; have hfz8_1 := blk_frozen BK133.out 1) | ((with_reducible refine gate_callee (f := 16) rfl ?_); refine goesL_ (some 6) rfl rfl Try.func16 (by kernel_rfl) rfl #[.agg #[.slice A0_0 l0_0.length c0_0, .int .i64 a0_1]] rfl (by (try simp only [List.map_toArray, List.map_cons, List.map_nil]); first | done | rfl | (simp only [List.length_drop, List.length_take]; rfl)) ?_; (with_reducible refine (task_Task_16.calls (fun k_ => ((((P0_0_ k_ ∨ w.heap.size ≤ k_) ∧ k_ ≠ gb133) ∧ k_ ≠ gb134) ∧ k_ ≠ gb135)) _ _ l0_0 a0_1 t136 t139 t140 t141 t142 t143 _ ?side1 A2.out).mono ?_); (case side1 => exact HO0_0.out); rintro e w9 ⟨v137, rfl, ho0, hb⟩; refine ⟨_, rfl, ?_⟩; have n0_ := Aside0.mk (Kd.V_below (by (with_reducible repeat (first | apply Kd.V_alloc | apply Kd.V_drewN | apply Kd.V_drew)); exact HO0_0.out) hb); have n1_ := Aside0.mk (Kd.V_lower (Kd.V_mono (ok' := fun k_ => (P0_0_ k_ ∨ w.heap.size ≤ k_) ∧ k_ ≠ gb133 ∧ k_ ≠ gb134 ∧ k_ ≠ gb135) ho0 (fun k_ hk_ => ⟨Or.elim hk_ (fun hs_ => hs_.1.1.1) (fun hn_ => (.inr (Nat.le_trans (below_size (by repeat (first | (with_reducible first | exact HB.out | apply below_alloc | apply pw_below_drewN | apply below_drew1 | refine below_set ?_ GE133.out | refine below_set ?_ GE134.out | refine below_set ?_ GE135.out) | exact HB.out))) hn_))), Or.elim hk_ (fun hs_ => hs_.1.1.2) (fun hn_ => (Kd.freshB (g := gb133) (o := .cells #[.slice A0_0 l0_0.length c0_0, .int .i64 a0_1] 25 (0, 0)) (by (with_reducible repeat (first | refine blk_drewN ?_ _ | refine blk_drew ?_ | refine blk_alloc ?_ _)); exact BK133.out) k_ hn_)), Or.elim hk_ (fun hs_ => hs_.1.2) (fun hn_ => (Kd.freshB (g := gb134) (o := .cells #[.slice none 0 0, .int .i64 0] 25 (0, 0)) (by (with_reducible repeat (first | refine blk_drewN ?_ _ | refine blk_drew ?_ | refine blk_alloc ?_ _)); exact BK134.out) k_ hn_)), Or.elim hk_ (fun hs_ => hs_.2) (fun hn_ => (Kd.freshB (g := gb135) (o := .cells #[.int .i64 0, .int .i64 0, .int .i64 0] 31 (0, 0)) (by (with_reducible repeat (first | refine blk_drewN ?_ _ | refine blk_drew ?_ | refine blk_alloc ?_ _)); exact BK135.out) k_ hn_))⟩)) (below_size (by repeat (first | (with_reducible first | exact HB.out | apply below_alloc | apply pw_below_drewN | apply below_drew1 | refine below_set ?_ GE133.out | refine below_set ?_ GE134.out | refine below_set ?_ GE135.out) | exact HB.out)))); have n2_ := Aside0.mk (blk_below (g := gb133) (o := .cells #[.slice A0_0 l0_0.length c0_0, .int .i64 a0_1] 25 (0, 0)) (by (with_reducible repeat (first | refine blk_drewN ?_ _ | refine blk_drew ?_ | refine blk_alloc ?_ _)); exact BK133.out) hb); have n3_ := Aside0.mk (blk_below (g := gb134) (o := .cells #[.slice none 0 0, .int .i64 0] 25 (0, 0)) (by (with_reducible repeat (first | refine blk_drewN ?_ _ | refine blk_drew ?_ | refine blk_alloc ?_ _)); exact BK134.out) hb); have n4_ := Aside0.mk (blk_below (g := gb135) (o := .cells #[.int .i64 0, .int .i64 0, .int .i64 0] 31 (0, 0)) (by (with_reducible repeat (first | refine blk_drewN ?_ _ | refine blk_drew ?_ | refine blk_alloc ?_ _)); exact BK135.out) hb); have n5_ := Aside0.mk (below_step (by repeat (first | (with_reducible first | exact HB.out | apply below_alloc | apply pw_below_drewN | apply below_drew1 | refine below_set ?_ GE133.out | refine below_set ?_ GE134.out | refine below_set ?_ GE135.out) | exact HB.out)) hb); clear HO0_0; clear BK133; clear BK134; clear BK135; clear HB; have HO0_0 := n0_; have HO138 := n1_; have BK133 := n2_; have BK134 := n3_; have BK135 := n4_; have HB := n5_; clear n0_ n1_ n2_ n3_ n4_ n5_; (try clear hb); (try clear hb2); (try clear hk); (try clear hi); (try clear ho0); obtain ⟨Ao10, co10, eo10⟩ := Kd.V_slice HO138.out; subst eo10; have hnb11 := NB134_135.out; have hnc11 := NB135_134.out; have hcz12_0 : w9.cell? ⟨gb134, 0, none⟩ = some (.slice none 0 0) := (blk_cell BK134.out 0).trans rfl; have hcz12_1 : w9.cell? ⟨gb134, 1, none⟩ = some (.int .i64 0) := (blk_cell BK134.out 1).trans rfl; have hfz12_0 := blk_frozen BK134.out 0; have hfz12_1 := blk_frozen BK134.out 1; have hcz13_0 : w9.cell? ⟨gb135, 0, none⟩ = some (.int .i64 0) := (blk_cell BK135.out 0).trans rfl; have hcz13_1 : w9.cell? ⟨gb135, 1, none⟩ = some (.int .i64 0) := (blk_cell BK135.out 1).trans rfl; have hcz13_2 : w9.cell? ⟨gb135, 2, none⟩ = some (.int .i64 0) := (blk_cell BK135.out 2).trans rfl; have hfz13_0 := blk_frozen BK135.out 0; have hfz13_1 := blk_frozen BK135.out 1; have hfz13_2 := blk_frozen BK135.out 2))
  refine bodyPost_ret (results_list (rs := [.cell 2 25, .cell 3 31, .tmp 4]) rfl (by simp) (.cell gb134 25 #[.slice Ao10 t136.length co10, .int .i64 t139] (0, 0) _ rfl (by (with_reducible repeat (first | refine blk_drewN ?_ _ | refine blk_drew ?_ | refine blk_alloc ?_ _)); refine blk_far ?_ NB134_135.out _; (with_reducible repeat (first | refine blk_drewN ?_ _ | refine blk_drew ?_ | refine blk_alloc ?_ _)); refine blk_far ?_ NB134_135.out _; (with_reducible repeat (first | refine blk_drewN ?_ _ | refine blk_drew ?_ | refine blk_alloc ?_ _)); refine blk_far ?_ NB134_135.out _; (with_reducible repeat (first | refine blk_drewN ?_ _ | refine blk_drew ?_ | refine blk_alloc ?_ _)); refine blk_put (cs := #[.slice Ao10 t136.length co10, .int .i64 0]) ?_ 1 _ rfl; (with_reducible repeat (first | refine blk_drewN ?_ _ | refine blk_drew ?_ | refine blk_alloc ?_ _)); refine blk_put (cs := #[.slice none 0 0, .int .i64 0]) ?_ 0 _ rfl; (with_reducible repeat (first | refine blk_drewN ?_ _ | refine blk_drew ?_ | refine blk_alloc ?_ _)); exact BK134.out) Try.underlying25 rfl (by kernel_rfl) (.cell gb135 31 #[.int .i64 t140, .int .i64 t141, .int .i64 t142] (0, 0) _ rfl (by (with_reducible repeat (first | refine blk_drewN ?_ _ | refine blk_drew ?_ | refine blk_alloc ?_ _)); refine blk_put (cs := #[.int .i64 t140, .int .i64 t141, .int .i64 0]) ?_ 2 _ rfl; (with_reducible repeat (first | refine blk_drewN ?_ _ | refine blk_drew ?_ | refine blk_alloc ?_ _)); refine blk_put (cs := #[.int .i64 t140, .int .i64 0, .int .i64 0]) ?_ 1 _ rfl; (with_reducible repeat (first | refine blk_drewN ?_ _ | refine blk_drew ?_ | refine blk_alloc ?_ _)); refine blk_put (cs := #[.int .i64 0, .int .i64 0, .int .i64 0]) ?_ 0 _ rfl; (with_reducible repeat (first | refine blk_drewN ?_ _ | refine blk_drew ?_ | refine blk_alloc ?_ _)); refine blk_far ?_ NB135_134.out _; (with_reducible repeat (first | refine blk_drewN ?_ _ | refine blk_drew ?_ | refine blk_alloc ?_ _)); refine blk_far ?_ NB135_134.out _; (with_reducible repeat (first | refine blk_drewN ?_ _ | refine blk_drew ?_ | refine blk_alloc ?_ _)); exact BK135.out) Try.underlying31 rfl (by kernel_rfl) (.tmp .nil)))) rfl ?_
  exact ⟨_, by first | rfl | (simp [errW_none, errW_some] <;> rfl) | (simp [*, errW_none, errW_some] <;> rfl), by (with_reducible repeat (first | apply Kd.V_alloc | apply Kd.V_drewN | apply Kd.V_drew)); exact Kd.V_mono (Kd.V_far (p := ⟨gb135, 2, none⟩) (Kd.V_far (p := ⟨gb135, 1, none⟩) (Kd.V_far (p := ⟨gb135, 0, none⟩) (Kd.V_far (p := ⟨gb134, 1, none⟩) (Kd.V_far (p := ⟨gb134, 0, none⟩) (Kd.V_mono (Kd.V_mono HO138.out (fun k_ hk => (⟨hk, hk.2.2.1⟩ : _ ∧ k_ ≠ gb134))) (fun k_ hk => (⟨hk, hk.1.2.2.2⟩ : _ ∧ k_ ≠ gb135))) (fun _ hk => hk.1.2) (.slice Ao10 t136.length co10)) (fun _ hk => hk.1.2) (.int .i64 t139)) (fun _ hk => hk.2) (.int .i64 t140)) (fun _ hk => hk.2) (.int .i64 t141)) (fun _ hk => hk.2) (.int .i64 t142)) (fun _ hk => hk.1.1.1), by repeat (first | (with_reducible first | exact HB.out | apply below_alloc | apply pw_below_drewN | apply below_drew1 | refine below_set ?_ GE133.out | refine below_set ?_ GE134.out | refine below_set ?_ GE135.out) | exact HB.out)⟩

/-! ### task_Waits: function 10, by hand -/
def task_Waits.f (l0_0 : List (S31)) (a0_1 : Int) (a1 : Int) : Option Bool := if l0_0.length ≤ 1000000 then some (decide (a1 ∈ ofk l0_0 2)) else none
theorem task_Waits.calls (A0_0 : Option Addr) (c0_0 : Nat) (l0_0 : List (S31)) (a0_1 : Int) (a1 : Int) (r : Bool) (w : World) (hr0_0 : Kd.C k31 w A0_0 l0_0.length l0_0) (hc0_0 : l0_0.length ≤ c0_0) (h : task_Waits.f l0_0 a0_1 a1 = some r) :
    Calls Try.prog 10 #[.agg #[.slice A0_0 l0_0.length c0_0, .int .i64 a0_1], .int .i64 a1] w fun e w' => e = .returned (.bool r) ∧ Below w.heap.size w w' := by
  unfold task_Waits.f at h
  by_cases hl : l0_0.length ≤ 1000000
  · rw [if_pos hl] at h
    obtain rfl := Option.some.inj h
    exact (callsIn_wide (n := 5)).1 (waits_in Fence.wide 5 trivial trivial trivial rfl (by decide) A0_0 c0_0 l0_0 a0_1 a1 hl w hr0_0)
  · rw [if_neg hl] at h
    exact absurd h (by simp)
/-! ### task_Held: function 12, by hand -/
def task_Held.f (l0_0 : List (S31)) (a0_1 : Int) : Option (List Int) := if l0_0.length ≤ 1000000 then some (ofk l0_0 1) else none
theorem task_Held.calls (A0_0 : Option Addr) (c0_0 : Nat) (l0_0 : List (S31)) (a0_1 : Int) (r : List Int) (w : World) (hr0_0 : Kd.C k31 w A0_0 l0_0.length l0_0) (hc0_0 : l0_0.length ≤ c0_0) (h : task_Held.f l0_0 a0_1 = some r) :
    Calls Try.prog 12 #[.agg #[.slice A0_0 l0_0.length c0_0, .int .i64 a0_1]] w fun e w' => ∃ v0_ : Value, e = .returned v0_ ∧ Kd.R (Kd.int .i64) 3 w' w.heap.size (fun _ => True) v0_ r ∧ Below w.heap.size w w' := by
  unfold task_Held.f at h
  by_cases hl : l0_0.length ≤ 1000000
  · rw [if_pos hl] at h
    obtain rfl := Option.some.inj h
    refine (callsIn_wide (n := 5)).1 ((held_in Fence.wide 5 trivial trivial trivial trivial trivial rfl (by decide) A0_0 c0_0 l0_0 a0_1 hl w hr0_0).mono ?_)
    rintro e w' ⟨v, rfl, ho, hb⟩
    obtain ⟨_, cs, e1, e2, e3⟩ := R_of_own ho
    exact ⟨v, rfl, ⟨fun k hk => trivial, cs, e1, e2, e3⟩, hb⟩
  · rw [if_neg hl] at h
    exact absurd h (by simp)
/-! ### task_Count: function 13, by hand -/
def task_Count.f (l0_0 : List (S31)) (a0_1 : Int) (a1 : Int) : Option Int := if l0_0.length ≤ 1000000 then some ((ofk l0_0 a1).length : Int) else none
theorem task_Count.calls (A0_0 : Option Addr) (c0_0 : Nat) (l0_0 : List (S31)) (a0_1 : Int) (a1 : Int) (r : Int) (w : World) (hr0_0 : Kd.C k31 w A0_0 l0_0.length l0_0) (hc0_0 : l0_0.length ≤ c0_0) (h : task_Count.f l0_0 a0_1 a1 = some r) :
    Calls Try.prog 13 #[.agg #[.slice A0_0 l0_0.length c0_0, .int .i64 a0_1], .int .i64 a1] w fun e w' => e = .returned (.int .i64 r) ∧ Below w.heap.size w w' := by
  unfold task_Count.f at h
  by_cases hl : l0_0.length ≤ 1000000
  · rw [if_pos hl] at h
    obtain rfl := Option.some.inj h
    exact (callsIn_wide (n := 5)).1 (tcount_in Fence.wide 5 trivial trivial trivial rfl (by decide) A0_0 c0_0 l0_0 a0_1 a1 hl w hr0_0)
  · rw [if_neg hl] at h
    exact absurd h (by simp)
end Go.Proofs.Ytpilkkedejcjaaa.MTaskTurns
