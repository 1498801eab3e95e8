/- The functions that the law reaches in plain Lean, and that the calls come to what these say. No condition. (By wip/myprint.py, this session's program over the kit's print.) -/
import Derived.Test.YtacgijcdcodfkaaMAllx0
import Derived.Test.YtacgijcdcodfkaaHndS
namespace Go.Proofs.Ytacgijcdcodfkaa.MAll
open Go.RowKit Go.Proofs.YtacgijcdcodfkaaW.PrintWords Go.Proofs.YtacgijcdcodfkaaW.PrintLast Go.Proofs.YtacgijcdcodfkaaW.PrintMore
attribute [local go_sem] max2_int min2_int max_two min_two max_three min_three max_four min_four   -- for this text's walks alone
set_option linter.unusedVariables false
set_option linter.unusedSimpArgs false

/-! ### slab_New_string: function 31 -/
def slab_New_string.f (a0 : Int) (a1 : Int) : Option ((List (S88)) × Int) := if a0 < 0 then (some (([] : List (S88)), 0)) else (if a0 > 24 then (some (([] : List (S88)), 0)) else (if a1 < 0 then (some (([] : List (S88)), 0)) else (if a1 > 9 then (some (([] : List (S88)), 0)) else (if 0 ≤ a0 then (if (a0 : Int).toNat ≤ 8796093022208 then (some ((List.replicate (a0 : Int).toNat z88), a1)) else (none)) else (none)))))
set_option maxHeartbeats 8000000 in
set_option maxRecDepth 100000 in
theorem slab_New_string.calls (a0 : Int) (a1 : Int) (r1 : List (S88)) (r2 : Int) (w : World) (h : slab_New_string.f a0 a1 = some (r1, r2)) :
    Calls Try.prog 31 #[.int .i64 a0, .int .i64 a1] w fun e w' => ∃ v0_ : Value, e = .returned (.agg #[v0_, .int .i64 r2]) ∧ Kd.R k88 88 w' w.heap.size (fun _ => True) v0_ r1 ∧ Below w.heap.size w w' := by
  have hu61 := Try.underlying61
  have HB := Aside0.mk (Below.refl w.heap.size w)
  have H : (if a0 < 0 then (some (([] : List (S88)), 0)) else (if a0 > 24 then (some (([] : List (S88)), 0)) else (if a1 < 0 then (some (([] : List (S88)), 0)) else (if a1 > 9 then (some (([] : List (S88)), 0)) else (if 0 ≤ a0 then (if (a0 : Int).toNat ≤ 8796093022208 then (some ((List.replicate (a0 : Int).toNat z88), a1)) else (none)) else (none)))))) = some (r1, r2) := h
  clear h
  by_cases c3 : a0 < 0
  · rw [if_pos c3] at H
    have c3b0 : decide (a0 < 0) = true := decide_eq_true c3
    clear c3
    simp only [Option.some.injEq, Prod.mk.injEq] at H
    obtain ⟨rfl, rfl⟩ := H
    go_enter Try.func31, Try.ntmps31
    go_wp2_with (first | ((with_reducible refine gate_dst (N := 4) rfl ?_); refine box_event ?hg (N := 4) ?hd (cs := #[.slice none 0 0, .int .i64 0]) (t := 61) ?hr ?_; (case hd => rfl); (case hg => rfl); (case hr => first | (go_simp; done) | (go_simp; rfl)); intro gb499 hg w4 hbox hb; have n0_ := Aside0.mk (below_step (by repeat (first | (with_reducible first | exact HB.out | apply below_alloc | apply pw_below_drewN | apply below_drew1) | exact HB.out)) hb); have n1_ := Aside0.mk (hbox); have n2_ := Aside0.mk ((by rw [hg]; exact (below_size (by repeat (first | (with_reducible first | exact HB.out | apply below_alloc | apply pw_below_drewN | apply below_drew1) | exact HB.out))) : w.heap.size ≤ gb499)); have n3_ := Aside0.mk ((by rw [hg]; exact (below_size (by repeat (first | (with_reducible first | exact HB.out | apply below_alloc | apply pw_below_drewN | apply below_drew1) | exact HB.out))) : w.heap.size ≤ gb499)); clear HB; have HB := n0_; have BK499 := n1_; have GW499 := n2_; have GE499 := n3_; clear n0_ n1_ n2_ n3_; clear hb hbox hg; have hcz5_0 : w4.cell? ⟨gb499, 0, none⟩ = some (.slice none 0 0) := (blk_cell BK499.out 0).trans rfl; have hcz5_1 : w4.cell? ⟨gb499, 1, none⟩ = some (.int .i64 0) := (blk_cell BK499.out 1).trans rfl; have hfz5_0 := blk_frozen BK499.out 0; have hfz5_1 := blk_frozen BK499.out 1))
    refine bodyPost_ret (results_cell_row rfl _ _ gb499 61 #[.slice none 0 0, .int .i64 0] (0, 0) _ rfl (by (with_reducible repeat (first | refine blk_drewN ?_ _ | refine blk_drew ?_ | refine blk_alloc ?_ _)); refine blk_put (cs := #[.slice none 0 0, .int .i64 0]) ?_ 1 _ rfl; (with_reducible repeat (first | refine blk_drewN ?_ _ | refine blk_drew ?_ | refine blk_alloc ?_ _)); refine blk_put (cs := #[.slice none 0 0, .int .i64 0]) ?_ 0 _ rfl; (with_reducible repeat (first | refine blk_drewN ?_ _ | refine blk_drew ?_ | refine blk_alloc ?_ _)); exact BK499.out) Try.underlying61 rfl (by kernel_rfl)) rfl ?_
    exact ⟨_, by first | rfl | (simp [errW_none, errW_some] <;> rfl) | (simp [*, errW_none, errW_some] <;> rfl), by first | exact Kd.R_nil _ _ _ _ _ | exact Kd.N_nil _ _ _ _ _ | exact Kd.V_nil _ _ _ _ _ | exact Kd.Q_nil _ _ _ _ _ | exact Kd.S_nil _ _ _ _ _, by repeat (first | (with_reducible first | exact HB.out | apply below_alloc | apply pw_below_drewN | apply below_drew1 | refine below_set ?_ GE499.out) | exact HB.out)⟩
  · rw [if_neg c3] at H
    have c3b0 : decide (a0 < 0) = false := decide_eq_false c3
    clear c3
    by_cases c6 : a0 > 24
    · rw [if_pos c6] at H
      have c6b0 : decide (24 < a0) = true := decide_eq_true c6
      clear c6
      simp only [Option.some.injEq, Prod.mk.injEq] at H
      obtain ⟨rfl, rfl⟩ := H
      go_enter Try.func31, Try.ntmps31
      go_wp2_with (first | ((with_reducible refine gate_dst (N := 4) rfl ?_); refine box_event ?hg (N := 4) ?hd (cs := #[.slice none 0 0, .int .i64 0]) (t := 61) ?hr ?_; (case hd => rfl); (case hg => rfl); (case hr => first | (go_simp; done) | (go_simp; rfl)); intro gb499 hg w7 hbox hb; have n0_ := Aside0.mk (below_step (by repeat (first | (with_reducible first | exact HB.out | apply below_alloc | apply pw_below_drewN | apply below_drew1) | exact HB.out)) hb); have n1_ := Aside0.mk (hbox); have n2_ := Aside0.mk ((by rw [hg]; exact (below_size (by repeat (first | (with_reducible first | exact HB.out | apply below_alloc | apply pw_below_drewN | apply below_drew1) | exact HB.out))) : w.heap.size ≤ gb499)); have n3_ := Aside0.mk ((by rw [hg]; exact (below_size (by repeat (first | (with_reducible first | exact HB.out | apply below_alloc | apply pw_below_drewN | apply below_drew1) | exact HB.out))) : w.heap.size ≤ gb499)); clear HB; have HB := n0_; have BK499 := n1_; have GW499 := n2_; have GE499 := n3_; clear n0_ n1_ n2_ n3_; clear hb hbox hg; have hcz8_0 : w7.cell? ⟨gb499, 0, none⟩ = some (.slice none 0 0) := (blk_cell BK499.out 0).trans rfl; have hcz8_1 : w7.cell? ⟨gb499, 1, none⟩ = some (.int .i64 0) := (blk_cell BK499.out 1).trans rfl; have hfz8_0 := blk_frozen BK499.out 0; have hfz8_1 := blk_frozen BK499.out 1))
      refine bodyPost_ret (results_cell_row rfl _ _ gb499 61 #[.slice none 0 0, .int .i64 0] (0, 0) _ rfl (by (with_reducible repeat (first | refine blk_drewN ?_ _ | refine blk_drew ?_ | refine blk_alloc ?_ _)); refine blk_put (cs := #[.slice none 0 0, .int .i64 0]) ?_ 1 _ rfl; (with_reducible repeat (first | refine blk_drewN ?_ _ | refine blk_drew ?_ | refine blk_alloc ?_ _)); refine blk_put (cs := #[.slice none 0 0, .int .i64 0]) ?_ 0 _ rfl; (with_reducible repeat (first | refine blk_drewN ?_ _ | refine blk_drew ?_ | refine blk_alloc ?_ _)); exact BK499.out) Try.underlying61 rfl (by kernel_rfl)) rfl ?_
      exact ⟨_, by first | rfl | (simp [errW_none, errW_some] <;> rfl) | (simp [*, errW_none, errW_some] <;> rfl), by first | exact Kd.R_nil _ _ _ _ _ | exact Kd.N_nil _ _ _ _ _ | exact Kd.V_nil _ _ _ _ _ | exact Kd.Q_nil _ _ _ _ _ | exact Kd.S_nil _ _ _ _ _, by repeat (first | (with_reducible first | exact HB.out | apply below_alloc | apply pw_below_drewN | apply below_drew1 | refine below_set ?_ GE499.out) | exact HB.out)⟩
    · rw [if_neg c6] at H
      have c6b0 : decide (24 < a0) = false := decide_eq_false c6
      clear c6
      by_cases c9 : a1 < 0
      · rw [if_pos c9] at H
        have c9b0 : decide (a1 < 0) = true := decide_eq_true c9
        clear c9
        simp only [Option.some.injEq, Prod.mk.injEq] at H
        obtain ⟨rfl, rfl⟩ := H
        go_enter Try.func31, Try.ntmps31
        go_wp2_with (first | ((with_reducible refine gate_dst (N := 4) rfl ?_); refine box_event ?hg (N := 4) ?hd (cs := #[.slice none 0 0, .int .i64 0]) (t := 61) ?hr ?_; (case hd => rfl); (case hg => rfl); (case hr => first | (go_simp; done) | (go_simp; rfl)); intro gb499 hg w10 hbox hb; have n0_ := Aside0.mk (below_step (by repeat (first | (with_reducible first | exact HB.out | apply below_alloc | apply pw_below_drewN | apply below_drew1) | exact HB.out)) hb); have n1_ := Aside0.mk (hbox); have n2_ := Aside0.mk ((by rw [hg]; exact (below_size (by repeat (first | (with_reducible first | exact HB.out | apply below_alloc | apply pw_below_drewN | apply below_drew1) | exact HB.out))) : w.heap.size ≤ gb499)); have n3_ := Aside0.mk ((by rw [hg]; exact (below_size (by repeat (first | (with_reducible first | exact HB.out | apply below_alloc | apply pw_below_drewN | apply below_drew1) | exact HB.out))) : w.heap.size ≤ gb499)); clear HB; have HB := n0_; have BK499 := n1_; have GW499 := n2_; have GE499 := n3_; clear n0_ n1_ n2_ n3_; clear hb hbox hg; have hcz11_0 : w10.cell? ⟨gb499, 0, none⟩ = some (.slice none 0 0) := (blk_cell BK499.out 0).trans rfl; have hcz11_1 : w10.cell? ⟨gb499, 1, none⟩ = some (.int .i64 0) := (blk_cell BK499.out 1).trans rfl; have hfz11_0 := blk_frozen BK499.out 0; have hfz11_1 := blk_frozen BK499.out 1))
        refine bodyPost_ret (results_cell_row rfl _ _ gb499 61 #[.slice none 0 0, .int .i64 0] (0, 0) _ rfl (by (with_reducible repeat (first | refine blk_drewN ?_ _ | refine blk_drew ?_ | refine blk_alloc ?_ _)); refine blk_put (cs := #[.slice none 0 0, .int .i64 0]) ?_ 1 _ rfl; (with_reducible repeat (first | refine blk_drewN ?_ _ | refine blk_drew ?_ | refine blk_alloc ?_ _)); refine blk_put (cs := #[.slice none 0 0, .int .i64 0]) ?_ 0 _ rfl; (with_reducible repeat (first | refine blk_drewN ?_ _ | refine blk_drew ?_ | refine blk_alloc ?_ _)); exact BK499.out) Try.underlying61 rfl (by kernel_rfl)) rfl ?_
        exact ⟨_, by first | rfl | (simp [errW_none, errW_some] <;> rfl) | (simp [*, errW_none, errW_some] <;> rfl), by first | exact Kd.R_nil _ _ _ _ _ | exact Kd.N_nil _ _ _ _ _ | exact Kd.V_nil _ _ _ _ _ | exact Kd.Q_nil _ _ _ _ _ | exact Kd.S_nil _ _ _ _ _, by repeat (first | (with_reducible first | exact HB.out | apply below_alloc | apply pw_below_drewN | apply below_drew1 | refine below_set ?_ GE499.out) | exact HB.out)⟩
      · rw [if_neg c9] at H
        have c9b0 : decide (a1 < 0) = false := decide_eq_false c9
        clear c9
        by_cases c12 : a1 > 9
        · rw [if_pos c12] at H
          have c12b0 : decide (9 < a1) = true := decide_eq_true c12
          clear c12
          simp only [Option.some.injEq, Prod.mk.injEq] at H
          obtain ⟨rfl, rfl⟩ := H
          go_enter Try.func31, Try.ntmps31
          go_wp2_with (first | ((with_reducible refine gate_dst (N := 4) rfl ?_); refine box_event ?hg (N := 4) ?hd (cs := #[.slice none 0 0, .int .i64 0]) (t := 61) ?hr ?_; (case hd => rfl); (case hg => rfl); (case hr => first | (go_simp; done) | (go_simp; rfl)); intro gb499 hg w13 hbox hb; have n0_ := Aside0.mk (below_step (by repeat (first | (with_reducible first | exact HB.out | apply below_alloc | apply pw_below_drewN | apply below_drew1) | exact HB.out)) hb); have n1_ := Aside0.mk (hbox); have n2_ := Aside0.mk ((by rw [hg]; exact (below_size (by repeat (first | (with_reducible first | exact HB.out | apply below_alloc | apply pw_below_drewN | apply below_drew1) | exact HB.out))) : w.heap.size ≤ gb499)); have n3_ := Aside0.mk ((by rw [hg]; exact (below_size (by repeat (first | (with_reducible first | exact HB.out | apply below_alloc | apply pw_below_drewN | apply below_drew1) | exact HB.out))) : w.heap.size ≤ gb499)); clear HB; have HB := n0_; have BK499 := n1_; have GW499 := n2_; have GE499 := n3_; clear n0_ n1_ n2_ n3_; clear hb hbox hg; have hcz14_0 : w13.cell? ⟨gb499, 0, none⟩ = some (.slice none 0 0) := (blk_cell BK499.out 0).trans rfl; have hcz14_1 : w13.cell? ⟨gb499, 1, none⟩ = some (.int .i64 0) := (blk_cell BK499.out 1).trans rfl; have hfz14_0 := blk_frozen BK499.out 0; have hfz14_1 := blk_frozen BK499.out 1))
          refine bodyPost_ret (results_cell_row rfl _ _ gb499 61 #[.slice none 0 0, .int .i64 0] (0, 0) _ rfl (by (with_reducible repeat (first | refine blk_drewN ?_ _ | refine blk_drew ?_ | refine blk_alloc ?_ _)); refine blk_put (cs := #[.slice none 0 0, .int .i64 0]) ?_ 1 _ rfl; (with_reducible repeat (first | refine blk_drewN ?_ _ | refine blk_drew ?_ | refine blk_alloc ?_ _)); refine blk_put (cs := #[.slice none 0 0, .int .i64 0]) ?_ 0 _ rfl; (with_reducible repeat (first | refine blk_drewN ?_ _ | refine blk_drew ?_ | refine blk_alloc ?_ _)); exact BK499.out) Try.underlying61 rfl (by kernel_rfl)) rfl ?_
          exact ⟨_, by first | rfl | (simp [errW_none, errW_some] <;> rfl) | (simp [*, errW_none, errW_some] <;> rfl), by first | exact Kd.R_nil _ _ _ _ _ | exact Kd.N_nil _ _ _ _ _ | exact Kd.V_nil _ _ _ _ _ | exact Kd.Q_nil _ _ _ _ _ | exact Kd.S_nil _ _ _ _ _, by repeat (first | (with_reducible first | exact HB.out | apply below_alloc | apply pw_below_drewN | apply below_drew1 | refine below_set ?_ GE499.out) | exact HB.out)⟩
        · rw [if_neg c12] at H
          have c12b0 : decide (9 < a1) = false := decide_eq_false c12
          clear c12
          by_cases c15 : 0 ≤ a0
          · rw [if_pos c15] at H
            have c15b0 := eq_true c15
            have c15b1 : decide (0 ≤ a0) = true := decide_eq_true c15
            clear c15
            by_cases c16 : (a0 : Int).toNat ≤ 8796093022208
            · rw [if_pos c16] at H
              have c16b0 := eq_true c16
              have c16b1 : decide ((a0 : Int).toNat ≤ 8796093022208) = true := decide_eq_true c16
              clear c16
              obtain ⟨y500, hy500⟩ : ∃ y_ : List (S88), y_ = (List.replicate (a0 : Int).toNat z88) := ⟨_, rfl⟩
              replace H : (some (y500, a1)) = some (r1, r2) := by first | (rw [hy500]; with_reducible exact H) | (have H2_ := (Option.bind_some _ _).symm.trans H; rw [hy500]; with_reducible exact H2_) | (have H2_ := (Option.bind_some _ _).symm.trans H; with_reducible exact H2_) | with_reducible exact H | (rw [hy500]; exact H) | exact H
              have Ny500 := Aside0.mk hy500
              clear hy500
              simp only [Option.some.injEq, Prod.mk.injEq] at H
              obtain ⟨rfl, rfl⟩ := H
              go_enter Try.func31, Try.ntmps31
              go_wp2_with (first | ((with_reducible refine gate_dst (N := 4) rfl ?_); refine box_event ?hg (N := 4) ?hd (cs := #[.slice none 0 0, .int .i64 0]) (t := 61) ?hr ?_; (case hd => rfl); (case hg => rfl); (case hr => first | (go_simp; done) | (go_simp; rfl)); intro gb499 hg w17 hbox hb; have n0_ := Aside0.mk (below_step (by repeat (first | (with_reducible first | exact HB.out | apply below_alloc | apply pw_below_drewN | apply below_drew1) | exact HB.out)) hb); have n1_ := Aside0.mk (hbox); have n2_ := Aside0.mk ((by rw [hg]; exact (below_size (by repeat (first | (with_reducible first | exact HB.out | apply below_alloc | apply pw_below_drewN | apply below_drew1) | exact HB.out))) : w.heap.size ≤ gb499)); have n3_ := Aside0.mk ((by rw [hg]; exact (below_size (by repeat (first | (with_reducible first | exact HB.out | apply below_alloc | apply pw_below_drewN | apply below_drew1) | exact HB.out))) : w.heap.size ≤ gb499)); clear HB; have HB := n0_; have BK499 := n1_; have GW499 := n2_; have GE499 := n3_; clear n0_ n1_ n2_ n3_; clear hb hbox hg) | ((with_reducible refine gate_dst (N := 21) rfl ?_); refine Kd.R_make k88 _ 88 rfl (N := 21) rfl 59 _ _ rfl a0 rfl rfl Try.underlying59 (.agg #[(.int .i64 0), (.int .i64 0), (.string ⟨#[]⟩)]) 32 info88 rfl (by decide) (by omega) z88 (ok := fun _ => True) (okp := fun _ => True) (k88_mkM _ _ _ z88 ) (fun _ hk => hk) trivial (of_decide_eq_true (by first | (with_reducible assumption) | assumption)) (Nat.le_trans (Nat.mul_le_mul_right _ (of_decide_eq_true (by first | (with_reducible assumption) | assumption) : a0.toNat ≤ 8796093022208)) (by omega)) (Below.refl _ _) (Nat.le_refl _) ?_; intro v501 w18 ho19 hb hg_ hnew_; clear hg_ hnew_; (first | rw [← Ny500.out] at ho19 | (simp only [Int.reduceToNat] at ho19; rw [← Ny500.out] at ho19)); have n0_ := Aside0.mk (Kd.R_lower ho19 (below_size (by repeat (first | (with_reducible first | exact HB.out | apply below_alloc | apply pw_below_drewN | apply below_drew1 | refine below_set ?_ GE499.out) | exact HB.out)))); have n1_ := Aside0.mk (blk_below (g := gb499) (o := .cells #[.slice none 0 0, .int .i64 0] 61 (0, 0)) (by (with_reducible repeat (first | refine blk_drewN ?_ _ | refine blk_drew ?_ | refine blk_alloc ?_ _)); exact BK499.out) hb); have n2_ := Aside0.mk (below_step (by repeat (first | (with_reducible first | exact HB.out | apply below_alloc | apply pw_below_drewN | apply below_drew1 | refine below_set ?_ GE499.out) | exact HB.out)) hb); clear BK499; clear HB; have HO502 := n0_; have BK499 := n1_; have HB := n2_; clear n0_ n1_ n2_; clear hb ho19; obtain ⟨Ao20, co20, eo20⟩ := Kd.R_slice HO502.out; subst eo20; have hcz21_0 : w18.cell? ⟨gb499, 0, none⟩ = some (.slice none 0 0) := (blk_cell BK499.out 0).trans rfl; have hcz21_1 : w18.cell? ⟨gb499, 1, none⟩ = some (.int .i64 0) := (blk_cell BK499.out 1).trans rfl; have hfz21_0 := blk_frozen BK499.out 0; have hfz21_1 := blk_frozen BK499.out 1))
              refine bodyPost_ret (results_cell_row rfl _ _ gb499 61 #[.slice Ao20 y500.length co20, .int .i64 a1] (0, 0) _ rfl (by (with_reducible repeat (first | refine blk_drewN ?_ _ | refine blk_drew ?_ | refine blk_alloc ?_ _)); refine blk_put (cs := #[.slice Ao20 y500.length co20, .int .i64 0]) ?_ 1 _ rfl; (with_reducible repeat (first | refine blk_drewN ?_ _ | refine blk_drew ?_ | refine blk_alloc ?_ _)); refine blk_put (cs := #[.slice none 0 0, .int .i64 0]) ?_ 0 _ rfl; (with_reducible repeat (first | refine blk_drewN ?_ _ | refine blk_drew ?_ | refine blk_alloc ?_ _)); exact BK499.out) Try.underlying61 rfl (by kernel_rfl)) rfl ?_
              exact ⟨_, by first | rfl | (simp [errW_none, errW_some] <;> rfl) | (simp [*, errW_none, errW_some] <;> rfl), by (with_reducible repeat (first | apply Kd.R_alloc | apply Kd.R_drewN | apply Kd.R_drew)); exact Kd.R_mono (Kd.R_far (p := ⟨gb499, 1, none⟩) (Kd.R_far (p := ⟨gb499, 0, none⟩) (Kd.R_types HO502.out BK499.out (by decide)) (fun _ hk => hk.2) (.slice Ao20 y500.length co20)) (fun _ hk => hk.2) (.int .i64 a1)) (fun _ hk => trivial), by repeat (first | (with_reducible first | exact HB.out | apply below_alloc | apply pw_below_drewN | apply below_drew1 | refine below_set ?_ GE499.out) | exact HB.out)⟩
            · rw [if_neg c16] at H
              exact absurd H (by simp)
          · rw [if_neg c15] at H
            exact absurd H (by simp)

/-! ### slab_Take_string: function 32, by hand -/
def slab_Take_string.f (l0_0 : List (S88)) (a0_1 : Int) (a1 : ByteArray) : Option (List (S88) × Int × Int × Int) := if l0_0.length ≤ 1000000 then (match frs S88.f0 l0_0 with
  | some i => some (l0_0.set i ⟨1, (l0_0.getD i z88).f1, a1⟩, a0_1, pk (i : Int) (l0_0.getD i z88).f1, 0)
  | none => some (l0_0, a0_1, 0, 4)) else none
theorem slab_Take_string.calls (P0_0_ : Nat → Prop) (A0_0 : Option Addr) (c0_0 : Nat) (l0_0 : List (S88)) (a0_1 : Int) (a1 : ByteArray) (r1 : List (S88)) (r2 : Int) (r3 : Int) (r4 : Int) (w : World) (hs0_0 : Kd.V k88 88 w w.heap.size (fun k_ => P0_0_ k_) (.slice A0_0 l0_0.length c0_0) l0_0) (h : slab_Take_string.f l0_0 a0_1 a1 = some (r1, r2, r3, r4)) :
    Calls Try.prog 32 #[.agg #[.slice A0_0 l0_0.length c0_0, .int .i64 a0_1], .string a1] w fun e w' => ∃ v0_ : Value, e = .returned (.tuple #[.agg #[v0_, .int .i64 r2], .int .i64 r3, .int .i64 r4]) ∧ Kd.V k88 88 w' w.heap.size (fun k_ => (P0_0_ k_ ∨ w.heap.size ≤ k_)) v0_ r1 ∧ Below w.heap.size w w' := by
  by_cases hbig : l0_0.length ≤ 1000000
  · unfold slab_Take_string.f at h
    rw [if_pos hbig] at h
    have hf : (match frs S88.f0 l0_0 with | some i => (l0_0.set i ⟨1, (l0_0.getD i z88).f1, a1⟩, pk (i : Int) (l0_0.getD i z88).f1, (0 : Int)) | none => (l0_0, 0, 4)) = (r1, r3, r4) ∧ a0_1 = r2 := by
      revert h
      cases frs S88.f0 l0_0 with
      | none => intro h; simp only [Option.some.injEq, Prod.mk.injEq] at h ⊢; exact ⟨⟨h.1, h.2.2.1, h.2.2.2⟩, h.2.1⟩
      | some i => intro h; simp only [Option.some.injEq, Prod.mk.injEq] at h ⊢; exact ⟨⟨h.1, h.2.2.1, h.2.2.2⟩, h.2.1⟩
    obtain ⟨hf, rfl⟩ := hf
    exact takew88 P0_0_ A0_0 c0_0 l0_0 a0_1 a1 hbig w hs0_0 r1 r3 r4 hf
  · unfold slab_Take_string.f at h
    rw [if_neg hbig] at h
    cases h
/-! ### slab_Find_string: function 51, by hand -/
def slab_Find_string.f (l0_0 : List (S88)) (a0_1 : Int) (a1 : Int) : Option (Int × Int) := if l0_0.length ≤ 1000000 then some (fnd S88.f0 S88.f1 l0_0 a1) else none
theorem slab_Find_string.calls (A0_0 : Option Addr) (c0_0 : Nat) (l0_0 : List (S88)) (a0_1 : Int) (a1 : Int) (r1 : Int) (r2 : Int) (w : World) (hr0_0 : Kd.C k88 w A0_0 l0_0.length l0_0) (hc0_0 : l0_0.length ≤ c0_0) (h : slab_Find_string.f l0_0 a0_1 a1 = some (r1, r2)) :
    Calls Try.prog 51 #[.agg #[.slice A0_0 l0_0.length c0_0, .int .i64 a0_1], .int .i64 a1] w fun e w' => e = .returned (.tuple #[.int .i64 r1, .int .i64 r2]) ∧ Below w.heap.size w w' := by
  by_cases hbig : l0_0.length ≤ 1000000
  · unfold slab_Find_string.f at h
    rw [if_pos hbig] at h
    have e := Option.some.inj h
    have hw := findw88 A0_0 c0_0 l0_0 a0_1 a1 hbig w hr0_0
    rw [e] at hw
    exact hw
  · unfold slab_Find_string.f at h
    rw [if_neg hbig] at h
    cases h
/-! ### slab_Get_string: function 33 -/
def slab_Get_string.f (l0_0 : List (S88)) (a0_1 : Int) (a1 : Int) : Option (ByteArray × Int) := (slab_Find_string.f l0_0 a0_1 a1).bind fun bt504 => (if bt504.2 = 0 then (if 0 ≤ bt504.1 then (if bt504.1 < (l0_0.length : Int) then (if ((rd_T88 l0_0 bt504.1).f0) = 2 then (some ((⟨#[]⟩ : ByteArray), 3)) else (some ((rd_T88 l0_0 bt504.1).f2, bt504.2))) else (none)) else (none)) else (some ((⟨#[]⟩ : ByteArray), bt504.2)))
set_option maxHeartbeats 8000000 in
set_option maxRecDepth 100000 in
theorem slab_Get_string.calls (A0_0 : Option Addr) (c0_0 : Nat) (l0_0 : List (S88)) (a0_1 : Int) (a1 : Int) (r1 : ByteArray) (r2 : Int) (w : World) (hr0_0 : Kd.C k88 w A0_0 l0_0.length l0_0) (hc0_0 : l0_0.length ≤ c0_0) (h : slab_Get_string.f l0_0 a0_1 a1 = some (r1, r2)) :
    Calls Try.prog 33 #[.agg #[.slice A0_0 l0_0.length c0_0, .int .i64 a0_1], .int .i64 a1] w fun e w' => e = .returned (.tuple #[.string r1, .int .i64 r2]) ∧ Below w.heap.size w w' := by
  have hu61 := Try.underlying61
  have HR0_0 := Aside0.mk hr0_0
  have HC0_0 := Aside0.mk hc0_0
  clear hr0_0 hc0_0
  have HB := Aside0.mk (Below.refl w.heap.size w)
  have H : ((slab_Find_string.f l0_0 a0_1 a1).bind fun bt504 => (if bt504.2 = 0 then (if 0 ≤ bt504.1 then (if bt504.1 < (l0_0.length : Int) then (if ((rd_T88 l0_0 bt504.1).f0) = 2 then (some ((⟨#[]⟩ : ByteArray), 3)) else (some ((rd_T88 l0_0 bt504.1).f2, bt504.2))) else (none)) else (none)) else (some ((⟨#[]⟩ : ByteArray), bt504.2)))) = some (r1, r2) := h
  clear h
  replace H := Option.bind_eq_some_iff.mp H
  obtain ⟨⟨t504, t505⟩, A30, H⟩ := H
  replace H : (if t505 = 0 then (if 0 ≤ t504 then (if t504 < (l0_0.length : Int) then (if ((rd_T88 l0_0 t504).f0) = 2 then (some ((⟨#[]⟩ : ByteArray), 3)) else (some ((rd_T88 l0_0 t504).f2, t505))) else (none)) else (none)) else (some ((⟨#[]⟩ : ByteArray), t505))) = some (r1, r2) := H
  have A3 := Aside0.mk A30
  clear A30
  by_cases c4 : t505 = 0
  · rw [if_pos c4] at H
    have c4b0 : (t505 == 0) = true := beq_iff_eq.mpr c4
    have c4b1 : (t505 != 0) = false := bne_eq_false_iff_eq.mpr c4
    clear c4
    by_cases c5 : 0 ≤ t504
    · rw [if_pos c5] at H
      have c5b0 : decide (0 ≤ t504) = true := decide_eq_true c5
      clear c5
      by_cases c6 : t504 < (l0_0.length : Int)
      · rw [if_pos c6] at H
        have c6b0 : decide (t504 < (l0_0.length : Int)) = true := decide_eq_true c6
        clear c6
        by_cases c7 : ((rd_T88 l0_0 t504).f0) = 2
        · rw [if_pos c7] at H
          have c7b0 : (((rd_T88 l0_0 t504).f0) == 2) = true := beq_iff_eq.mpr c7
          have c7b1 : (((rd_T88 l0_0 t504).f0) != 2) = false := bne_eq_false_iff_eq.mpr c7
          clear c7
          simp only [Option.some.injEq, Prod.mk.injEq] at H
          obtain ⟨rfl, rfl⟩ := H
          go_enter Try.func33, Try.ntmps33
          go_wp2_with (first | ((with_reducible refine gate_dst (N := 2) rfl ?_); refine box_event ?hg (N := 2) ?hd (cs := #[.slice A0_0 l0_0.length c0_0, .int .i64 a0_1]) (t := 61) ?hr ?_; (case hd => rfl); (case hg => rfl); (case hr => first | (go_simp; done) | (go_simp; rfl)); intro gb503 hg w8 hbox hb; have n0_ := Aside0.mk (below_step (by repeat (first | (with_reducible first | exact HB.out | apply below_alloc | apply pw_below_drewN | apply below_drew1) | exact HB.out)) hb); have n1_ := Aside0.mk (hbox); have n2_ := Aside0.mk ((by rw [hg]; exact (below_size (by repeat (first | (with_reducible first | exact HB.out | apply below_alloc | apply pw_below_drewN | apply below_drew1) | exact HB.out))) : w.heap.size ≤ gb503)); have n3_ := Aside0.mk ((by rw [hg]; exact (below_size (by repeat (first | (with_reducible first | exact HB.out | apply below_alloc | apply pw_below_drewN | apply below_drew1) | exact HB.out))) : w.heap.size ≤ gb503)); clear HB; have HB := n0_; have BK503 := n1_; have GW503 := n2_; have GE503 := n3_; clear n0_ n1_ n2_ n3_; clear hb hbox hg; have hcz9_0 : w8.cell? ⟨gb503, 0, none⟩ = some (.slice A0_0 l0_0.length c0_0) := (blk_cell BK503.out 0).trans rfl; have hcz9_1 : w8.cell? ⟨gb503, 1, none⟩ = some (.int .i64 a0_1) := (blk_cell BK503.out 1).trans rfl; have hfz9_0 := blk_frozen BK503.out 0; have hfz9_1 := blk_frozen BK503.out 1) | ((with_reducible refine gate_callee (f := 51) rfl ?_); refine goesL_ (some 10) rfl rfl Try.func51 (by kernel_rfl) rfl #[.agg #[.slice A0_0 l0_0.length c0_0, .int .i64 a0_1], .int .i64 a1] rfl (by (try simp only [List.map_toArray, List.map_cons, List.map_nil]); first | done | rfl | (simp only [List.length_drop, List.length_take]; rfl)) ?_; (with_reducible refine (slab_Find_string.calls _ _ l0_0 a0_1 a1 t504 t505 _ ?side1 ?side2 A3.out).mono ?_); (case side1 => repeat (first | exact (Kd.C_below HR0_0.out HB.out) | (with_reducible refine Kd.C_alloc ?_ _) | (with_reducible refine Kd.C_drewN ?_ _) | (with_reducible refine Kd.C_drew ?_))); (case side2 => exact HC0_0.out); rintro e w10 ⟨rfl, hb⟩; refine ⟨_, rfl, ?_⟩; have n0_ := Aside0.mk (blk_below (g := gb503) (o := .cells #[.slice A0_0 l0_0.length c0_0, .int .i64 a0_1] 61 (0, 0)) (by (with_reducible repeat (first | refine blk_drewN ?_ _ | refine blk_drew ?_ | refine blk_alloc ?_ _)); exact BK503.out) hb); have n1_ := Aside0.mk (below_step (by repeat (first | (with_reducible first | exact HB.out | apply below_alloc | apply pw_below_drewN | apply below_drew1 | refine below_set ?_ GE503.out) | exact HB.out)) hb); clear BK503; clear HB; have BK503 := n0_; have HB := n1_; clear n0_ n1_; (try clear hb); (try clear hb2); (try clear hk); (try clear hi); have hcz11_0 : w10.cell? ⟨gb503, 0, none⟩ = some (.slice A0_0 l0_0.length c0_0) := (blk_cell BK503.out 0).trans rfl; have hcz11_1 : w10.cell? ⟨gb503, 1, none⟩ = some (.int .i64 a0_1) := (blk_cell BK503.out 1).trans rfl; have hfz11_0 := blk_frozen BK503.out 0; have hfz11_1 := blk_frozen BK503.out 1; have p506 : 0 ≤ (t504 : Int) := of_decide_eq_true (by first | (with_reducible assumption) | assumption); have q506 : t504 < (l0_0.length : Int) := of_decide_eq_true (by first | (with_reducible assumption) | assumption); obtain ⟨ad506, e506, hx506_0, hx506_1, hx506_2⟩ := at_T88 HR0_0.out t504 p506 q506; cases e506; replace hx506_0 := (HB.out.cell (World.block_lt_of_cell? w _ hx506_0)).trans hx506_0; replace hx506_1 := (HB.out.cell (World.block_lt_of_cell? w _ hx506_1)).trans hx506_1; replace hx506_2 := (HB.out.cell (World.block_lt_of_cell? w _ hx506_2)).trans hx506_2; replace p506 := eq_true p506; replace q506 := eq_true q506))
          go_ret2
          exact ⟨by first | rfl | (simp [errW_none, errW_some] <;> rfl) | (simp [*, errW_none, errW_some] <;> rfl), by repeat (first | (with_reducible first | exact HB.out | apply below_alloc | apply pw_below_drewN | apply below_drew1 | refine below_set ?_ GE503.out) | exact HB.out)⟩
        · rw [if_neg c7] at H
          have c7b0 : (((rd_T88 l0_0 t504).f0) == 2) = false := beq_eq_false_iff_ne.mpr c7
          have c7b1 : (((rd_T88 l0_0 t504).f0) != 2) = true := bne_iff_ne.mpr c7
          simp only [Option.some.injEq, Prod.mk.injEq] at H
          obtain ⟨rfl, rfl⟩ := H
          go_enter Try.func33, Try.ntmps33
          go_wp2_with (first | ((with_reducible refine gate_dst (N := 2) rfl ?_); refine box_event ?hg (N := 2) ?hd (cs := #[.slice A0_0 l0_0.length c0_0, .int .i64 a0_1]) (t := 61) ?hr ?_; (case hd => rfl); (case hg => rfl); (case hr => first | (go_simp; done) | (go_simp; rfl)); intro gb503 hg w12 hbox hb; have n0_ := Aside0.mk (below_step (by repeat (first | (with_reducible first | exact HB.out | apply below_alloc | apply pw_below_drewN | apply below_drew1) | exact HB.out)) hb); have n1_ := Aside0.mk (hbox); have n2_ := Aside0.mk ((by rw [hg]; exact (below_size (by repeat (first | (with_reducible first | exact HB.out | apply below_alloc | apply pw_below_drewN | apply below_drew1) | exact HB.out))) : w.heap.size ≤ gb503)); have n3_ := Aside0.mk ((by rw [hg]; exact (below_size (by repeat (first | (with_reducible first | exact HB.out | apply below_alloc | apply pw_below_drewN | apply below_drew1) | exact HB.out))) : w.heap.size ≤ gb503)); clear HB; have HB := n0_; have BK503 := n1_; have GW503 := n2_; have GE503 := n3_; clear n0_ n1_ n2_ n3_; clear hb hbox hg; have hcz13_0 : w12.cell? ⟨gb503, 0, none⟩ = some (.slice A0_0 l0_0.length c0_0) := (blk_cell BK503.out 0).trans rfl; have hcz13_1 : w12.cell? ⟨gb503, 1, none⟩ = some (.int .i64 a0_1) := (blk_cell BK503.out 1).trans rfl; have hfz13_0 := blk_frozen BK503.out 0; have hfz13_1 := blk_frozen BK503.out 1) | ((with_reducible refine gate_callee (f := 51) rfl ?_); refine goesL_ (some 10) rfl rfl Try.func51 (by kernel_rfl) rfl #[.agg #[.slice A0_0 l0_0.length c0_0, .int .i64 a0_1], .int .i64 a1] rfl (by (try simp only [List.map_toArray, List.map_cons, List.map_nil]); first | done | rfl | (simp only [List.length_drop, List.length_take]; rfl)) ?_; (with_reducible refine (slab_Find_string.calls _ _ l0_0 a0_1 a1 t504 t505 _ ?side1 ?side2 A3.out).mono ?_); (case side1 => repeat (first | exact (Kd.C_below HR0_0.out HB.out) | (with_reducible refine Kd.C_alloc ?_ _) | (with_reducible refine Kd.C_drewN ?_ _) | (with_reducible refine Kd.C_drew ?_))); (case side2 => exact HC0_0.out); rintro e w14 ⟨rfl, hb⟩; refine ⟨_, rfl, ?_⟩; have n0_ := Aside0.mk (blk_below (g := gb503) (o := .cells #[.slice A0_0 l0_0.length c0_0, .int .i64 a0_1] 61 (0, 0)) (by (with_reducible repeat (first | refine blk_drewN ?_ _ | refine blk_drew ?_ | refine blk_alloc ?_ _)); exact BK503.out) hb); have n1_ := Aside0.mk (below_step (by repeat (first | (with_reducible first | exact HB.out | apply below_alloc | apply pw_below_drewN | apply below_drew1 | refine below_set ?_ GE503.out) | exact HB.out)) hb); clear BK503; clear HB; have BK503 := n0_; have HB := n1_; clear n0_ n1_; (try clear hb); (try clear hb2); (try clear hk); (try clear hi); have hcz15_0 : w14.cell? ⟨gb503, 0, none⟩ = some (.slice A0_0 l0_0.length c0_0) := (blk_cell BK503.out 0).trans rfl; have hcz15_1 : w14.cell? ⟨gb503, 1, none⟩ = some (.int .i64 a0_1) := (blk_cell BK503.out 1).trans rfl; have hfz15_0 := blk_frozen BK503.out 0; have hfz15_1 := blk_frozen BK503.out 1; have p506 : 0 ≤ (t504 : Int) := of_decide_eq_true (by first | (with_reducible assumption) | assumption); have q506 : t504 < (l0_0.length : Int) := of_decide_eq_true (by first | (with_reducible assumption) | assumption); obtain ⟨ad506, e506, hx506_0, hx506_1, hx506_2⟩ := at_T88 HR0_0.out t504 p506 q506; cases e506; replace hx506_0 := (HB.out.cell (World.block_lt_of_cell? w _ hx506_0)).trans hx506_0; replace hx506_1 := (HB.out.cell (World.block_lt_of_cell? w _ hx506_1)).trans hx506_1; replace hx506_2 := (HB.out.cell (World.block_lt_of_cell? w _ hx506_2)).trans hx506_2; replace p506 := eq_true p506; replace q506 := eq_true q506; have p507 : 0 ≤ (t504 : Int) := of_decide_eq_true (by first | (with_reducible assumption) | assumption); have q507 : t504 < (l0_0.length : Int) := of_decide_eq_true (by first | (with_reducible assumption) | assumption); obtain ⟨ad507, e507, hx507_0, hx507_1, hx507_2⟩ := at_T88 HR0_0.out t504 p507 q507; obtain rfl : ad506 = ad507 := (by injection e507); replace hx507_0 := (HB.out.cell (World.block_lt_of_cell? w _ hx507_0)).trans hx507_0; replace hx507_1 := (HB.out.cell (World.block_lt_of_cell? w _ hx507_1)).trans hx507_1; replace hx507_2 := (HB.out.cell (World.block_lt_of_cell? w _ hx507_2)).trans hx507_2; replace p507 := eq_true p507; replace q507 := eq_true q507))
          go_ret2
          exact ⟨by first | rfl | (simp [errW_none, errW_some] <;> rfl) | (simp [*, errW_none, errW_some] <;> rfl), by repeat (first | (with_reducible first | exact HB.out | apply below_alloc | apply pw_below_drewN | apply below_drew1 | refine below_set ?_ GE503.out) | exact HB.out)⟩
      · rw [if_neg c6] at H
        exact absurd H (by simp)
    · rw [if_neg c5] at H
      exact absurd H (by simp)
  · rw [if_neg c4] at H
    have c4b0 : (t505 == 0) = false := beq_eq_false_iff_ne.mpr c4
    have c4b1 : (t505 != 0) = true := bne_iff_ne.mpr c4
    simp only [Option.some.injEq, Prod.mk.injEq] at H
    obtain ⟨rfl, rfl⟩ := H
    go_enter Try.func33, Try.ntmps33
    go_wp2_with (first | ((with_reducible refine gate_dst (N := 2) rfl ?_); refine box_event ?hg (N := 2) ?hd (cs := #[.slice A0_0 l0_0.length c0_0, .int .i64 a0_1]) (t := 61) ?hr ?_; (case hd => rfl); (case hg => rfl); (case hr => first | (go_simp; done) | (go_simp; rfl)); intro gb503 hg w16 hbox hb; have n0_ := Aside0.mk (below_step (by repeat (first | (with_reducible first | exact HB.out | apply below_alloc | apply pw_below_drewN | apply below_drew1) | exact HB.out)) hb); have n1_ := Aside0.mk (hbox); have n2_ := Aside0.mk ((by rw [hg]; exact (below_size (by repeat (first | (with_reducible first | exact HB.out | apply below_alloc | apply pw_below_drewN | apply below_drew1) | exact HB.out))) : w.heap.size ≤ gb503)); have n3_ := Aside0.mk ((by rw [hg]; exact (below_size (by repeat (first | (with_reducible first | exact HB.out | apply below_alloc | apply pw_below_drewN | apply below_drew1) | exact HB.out))) : w.heap.size ≤ gb503)); clear HB; have HB := n0_; have BK503 := n1_; have GW503 := n2_; have GE503 := n3_; clear n0_ n1_ n2_ n3_; clear hb hbox hg; have hcz17_0 : w16.cell? ⟨gb503, 0, none⟩ = some (.slice A0_0 l0_0.length c0_0) := (blk_cell BK503.out 0).trans rfl; have hcz17_1 : w16.cell? ⟨gb503, 1, none⟩ = some (.int .i64 a0_1) := (blk_cell BK503.out 1).trans rfl; have hfz17_0 := blk_frozen BK503.out 0; have hfz17_1 := blk_frozen BK503.out 1) | ((with_reducible refine gate_callee (f := 51) rfl ?_); refine goesL_ (some 10) rfl rfl Try.func51 (by kernel_rfl) rfl #[.agg #[.slice A0_0 l0_0.length c0_0, .int .i64 a0_1], .int .i64 a1] rfl (by (try simp only [List.map_toArray, List.map_cons, List.map_nil]); first | done | rfl | (simp only [List.length_drop, List.length_take]; rfl)) ?_; (with_reducible refine (slab_Find_string.calls _ _ l0_0 a0_1 a1 t504 t505 _ ?side1 ?side2 A3.out).mono ?_); (case side1 => repeat (first | exact (Kd.C_below HR0_0.out HB.out) | (with_reducible refine Kd.C_alloc ?_ _) | (with_reducible refine Kd.C_drewN ?_ _) | (with_reducible refine Kd.C_drew ?_))); (case side2 => exact HC0_0.out); rintro e w18 ⟨rfl, hb⟩; refine ⟨_, rfl, ?_⟩; have n0_ := Aside0.mk (blk_below (g := gb503) (o := .cells #[.slice A0_0 l0_0.length c0_0, .int .i64 a0_1] 61 (0, 0)) (by (with_reducible repeat (first | refine blk_drewN ?_ _ | refine blk_drew ?_ | refine blk_alloc ?_ _)); exact BK503.out) hb); have n1_ := Aside0.mk (below_step (by repeat (first | (with_reducible first | exact HB.out | apply below_alloc | apply pw_below_drewN | apply below_drew1 | refine below_set ?_ GE503.out) | exact HB.out)) hb); clear BK503; clear HB; have BK503 := n0_; have HB := n1_; clear n0_ n1_; (try clear hb); (try clear hb2); (try clear hk); (try clear hi)))
    go_ret2
    exact ⟨by first | rfl | (simp [errW_none, errW_some] <;> rfl) | (simp [*, errW_none, errW_some] <;> rfl), by repeat (first | (with_reducible first | exact HB.out | apply below_alloc | apply pw_below_drewN | apply below_drew1 | refine below_set ?_ GE503.out) | exact HB.out)⟩

/-! ### slab_Set_string: function 34, by hand -/
def slab_Set_string.f (l0_0 : List (S88)) (a0_1 : Int) (a1 : Int) (a2 : ByteArray) : Option (List (S88) × Int × Int) := if l0_0.length ≤ 1000000 then (if (fnd S88.f0 S88.f1 l0_0 a1).2 = 0 then some (l0_0.set (fnd S88.f0 S88.f1 l0_0 a1).1.toNat (⟨(l0_0.getD (fnd S88.f0 S88.f1 l0_0 a1).1.toNat z88).f0, (l0_0.getD (fnd S88.f0 S88.f1 l0_0 a1).1.toNat z88).f1, a2⟩), a0_1, 0) else some (l0_0, a0_1, (fnd S88.f0 S88.f1 l0_0 a1).2)) else none
theorem slab_Set_string.calls (P0_0_ : Nat → Prop) (A0_0 : Option Addr) (c0_0 : Nat) (l0_0 : List (S88)) (a0_1 : Int) (a1 : Int) (a2 : ByteArray) (r1 : List (S88)) (r2 : Int) (r3 : Int) (w : World) (hs0_0 : Kd.V k88 88 w w.heap.size (fun k_ => P0_0_ k_) (.slice A0_0 l0_0.length c0_0) l0_0) (h : slab_Set_string.f l0_0 a0_1 a1 a2 = some (r1, r2, r3)) :
    Calls Try.prog 34 #[.agg #[.slice A0_0 l0_0.length c0_0, .int .i64 a0_1], .int .i64 a1, .string a2] w fun e w' => ∃ v0_ : Value, e = .returned (.tuple #[.agg #[v0_, .int .i64 r2], .int .i64 r3]) ∧ Kd.V k88 88 w' w.heap.size (fun k_ => (P0_0_ k_ ∨ w.heap.size ≤ k_)) v0_ r1 ∧ Below w.heap.size w w' := by
  by_cases hbig : l0_0.length ≤ 1000000
  · unfold slab_Set_string.f at h
    rw [if_pos hbig] at h
    have hw := setw88 P0_0_ A0_0 c0_0 l0_0 a0_1 a1 a2 hbig w hs0_0
    by_cases c : (fnd S88.f0 S88.f1 l0_0 a1).2 = 0
    · rw [if_pos c] at h hw
      rw [c] at hw
      simp only [Option.some.injEq, Prod.mk.injEq] at h
      obtain ⟨rfl, rfl, rfl⟩ := h
      exact hw.mono fun e w' ⟨A', c', he, hv, hb⟩ => ⟨_, he, hv, hb⟩
    · rw [if_neg c] at h hw
      simp only [Option.some.injEq, Prod.mk.injEq] at h
      obtain ⟨rfl, rfl, rfl⟩ := h
      exact hw.mono fun e w' ⟨A', c', he, hv, hb⟩ => ⟨_, he, hv, hb⟩
  · unfold slab_Set_string.f at h
    rw [if_neg hbig] at h
    cases h
end Go.Proofs.Ytacgijcdcodfkaa.MAll
