/- The functions that the law reaches in plain Lean, and that the calls come to what these say. No condition. (By wip/myprint.py, this session's program over the kit's print.) -/
import Derived.Test.YtoefbobjiepbeaaMQueueTurnsx0
import Derived.Test.YtoefbobjiepbeaaMQueueTurnsx1
namespace Go.Proofs.Ytoefbobjiepbeaa.MQueueTurns
open Go.RowKit Go.Proofs.YtoefbobjiepbeaaW.PrintWords Go.Proofs.YtoefbobjiepbeaaW.PrintLast Go.Proofs.YtoefbobjiepbeaaW.PrintMore
attribute [local go_sem] max2_int min2_int max_two min_two max_three min_three max_four min_four   -- for this text's walks alone
set_option linter.unusedVariables false
set_option linter.unusedSimpArgs false

/-! ### mortmainlaw02_QueueTurns: function 8 -/
mutual
def mortmainlaw02_QueueTurns.j0 : Nat → List Int → Int → Bool → Option (Bool)
  | 0, _, _, _ => none
  | k + 1, x1, x5, x23 => if x23 = true then ((mortmainlaw02_shown.f).bind fun t171 => (some t171)) else ((queue_New_int.f x5).bind fun bt172 => (mortmainlaw02_QueueTurns.l0 k x1 (([] : List Int)) 0 bt172.1 bt172.2))
def mortmainlaw02_QueueTurns.l0 : Nat → List Int → List Int → Int → List Int → Int → Option (Bool)
  | 0, _, _, _, _, _ => none
  | k + 1, x1, x7, x8, x177000, x177001 => if x8 < (x1.length : Int) then (if 0 ≤ x8 then (if (Int.tmod (rd x1 x8) 2) = 0 then ((queue_Push_int.f x177000 x177001 (rd x1 x8)).bind fun bt182 => (if bt182.2.2 = 0 then (if x7.length < 17592186044416 then ((some (x7 ++ [rd x1 x8] : List Int)).bind fun y189 => ((queue_Len_int.f bt182.1 bt182.2.1).bind fun t192 => (if t192 = (y189.length : Int) then (mortmainlaw02_QueueTurns.l0 k x1 y189 (wrap64 (x8 + 1)) bt182.1 bt182.2.1) else (none)))) else (none)) else ((queue_Len_int.f bt182.1 bt182.2.1).bind fun t193 => (if t193 = (x7.length : Int) then (mortmainlaw02_QueueTurns.l0 k x1 x7 (wrap64 (x8 + 1)) bt182.1 bt182.2.1) else (none))))) else ((queue_Pop_int.f x177000 x177001).bind fun bt194 => (if ((bt194.2.2.2 == 0) != (decide ((x7.length : Int) > 0))) = true then (none) else (if bt194.2.2.2 = 0 then (if 0 < (x7.length : Int) then (mortmainlaw02_QueueTurns.j2 k x1 x7 x8 bt194.2.2.2 (bt194.2.2.1 != (rd x7 0)) bt194.1 bt194.2.1) else (none)) else (mortmainlaw02_QueueTurns.j2 k x1 x7 x8 bt194.2.2.2 false bt194.1 bt194.2.1))))) else (none)) else (some true)
def mortmainlaw02_QueueTurns.j2 : Nat → List Int → List Int → Int → Int → Bool → List Int → Int → Option (Bool)
  | 0, _, _, _, _, _, _, _ => none
  | k + 1, x1, x7, x8, x13, x81, x201000, x201001 => if x81 = true then (none) else (if x13 = 0 then (if 1 ≤ (x7.length : Int) then ((some (x7.drop (1 : Int).toNat : List Int)).bind fun y202 => ((queue_Len_int.f x201000 x201001).bind fun t205 => (if t205 = (y202.length : Int) then (mortmainlaw02_QueueTurns.l0 k x1 y202 (wrap64 (x8 + 1)) x201000 x201001) else (none)))) else (none)) else ((queue_Len_int.f x201000 x201001).bind fun t206 => (if t206 = (x7.length : Int) then (mortmainlaw02_QueueTurns.l0 k x1 x7 (wrap64 (x8 + 1)) x201000 x201001) else (none))))
end
def mortmainlaw02_QueueTurns.f (k : Nat) (a0 : Int) (l1 : List Int) : Option (Bool) := if (l1.length : Int) > 100 then (mortmainlaw02_QueueTurns.j0 k l1 (Int.tmod (wrap64 (a0)) 10) true) else ((mortmainlaw02_shown.f).bind fun t170 => (mortmainlaw02_QueueTurns.j0 k l1 (Int.tmod (wrap64 (a0)) 10) (!t170)))
theorem mortmainlaw02_QueueTurns.mono_l : ∀ k, (∀ y0 y1 y2, LeO (mortmainlaw02_QueueTurns.j0 k y0 y1 y2) (mortmainlaw02_QueueTurns.j0 (k + 1) y0 y1 y2)) ∧ (∀ y0 y1 y2 y3 y4, LeO (mortmainlaw02_QueueTurns.l0 k y0 y1 y2 y3 y4) (mortmainlaw02_QueueTurns.l0 (k + 1) y0 y1 y2 y3 y4)) ∧ (∀ y0 y1 y2 y3 y4 y5 y6, LeO (mortmainlaw02_QueueTurns.j2 k y0 y1 y2 y3 y4 y5 y6) (mortmainlaw02_QueueTurns.j2 (k + 1) y0 y1 y2 y3 y4 y5 y6))
  | 0 => ⟨fun _ _ _ r h => by simp [mortmainlaw02_QueueTurns.j0] at h, fun _ _ _ _ _ r h => by simp [mortmainlaw02_QueueTurns.l0] at h, fun _ _ _ _ _ _ _ r h => by simp [mortmainlaw02_QueueTurns.j2] at h⟩
  | k + 1 => by
    obtain ⟨ih0, ih1, ih2⟩ := mortmainlaw02_QueueTurns.mono_l k
    refine ⟨?_, ?_, ?_⟩
    · intro y0 y1 y2
      unfold mortmainlaw02_QueueTurns.j0
      repeat' first
      | (with_reducible exact ih0 _ _ _)
      | (with_reducible exact ih1 _ _ _ _ _)
      | (with_reducible exact ih2 _ _ _ _ _ _ _)
      | (with_reducible exact LeO.refl _)
      | (with_reducible exact LeO.none _)
      | (with_reducible refine LeO.ite ?_ ?_)
      | (with_reducible refine LeO.bind ?_ (fun _ => ?_))
      | exact ih0 _ _ _
      | exact ih1 _ _ _ _ _
      | exact ih2 _ _ _ _ _ _ _
      | exact LeO.none _
      | refine LeO.ite ?_ ?_
      | refine LeO.bind ?_ (fun _ => ?_)
    · intro y0 y1 y2 y3 y4
      unfold mortmainlaw02_QueueTurns.l0
      repeat' first
      | (with_reducible exact ih0 _ _ _)
      | (with_reducible exact ih1 _ _ _ _ _)
      | (with_reducible exact ih2 _ _ _ _ _ _ _)
      | (with_reducible exact LeO.refl _)
      | (with_reducible exact LeO.none _)
      | (with_reducible refine LeO.ite ?_ ?_)
      | (with_reducible refine LeO.bind ?_ (fun _ => ?_))
      | exact ih0 _ _ _
      | exact ih1 _ _ _ _ _
      | exact ih2 _ _ _ _ _ _ _
      | exact LeO.none _
      | refine LeO.ite ?_ ?_
      | refine LeO.bind ?_ (fun _ => ?_)
    · intro y0 y1 y2 y3 y4 y5 y6
      unfold mortmainlaw02_QueueTurns.j2
      repeat' first
      | (with_reducible exact ih0 _ _ _)
      | (with_reducible exact ih1 _ _ _ _ _)
      | (with_reducible exact ih2 _ _ _ _ _ _ _)
      | (with_reducible exact LeO.refl _)
      | (with_reducible exact LeO.none _)
      | (with_reducible refine LeO.ite ?_ ?_)
      | (with_reducible refine LeO.bind ?_ (fun _ => ?_))
      | exact ih0 _ _ _
      | exact ih1 _ _ _ _ _
      | exact ih2 _ _ _ _ _ _ _
      | exact LeO.none _
      | refine LeO.ite ?_ ?_
      | refine LeO.bind ?_ (fun _ => ?_)
theorem mortmainlaw02_QueueTurns.mono : ∀ a0 a1 k, LeO (mortmainlaw02_QueueTurns.f k a0 a1) (mortmainlaw02_QueueTurns.f (k + 1) a0 a1) := by
  intro a0 a1 k
  obtain ⟨ih0, ih1, ih2⟩ := mortmainlaw02_QueueTurns.mono_l k
  unfold mortmainlaw02_QueueTurns.f
  repeat' first
      | (with_reducible exact ih0 _ _ _)
      | (with_reducible exact ih1 _ _ _ _ _)
      | (with_reducible exact ih2 _ _ _ _ _ _ _)
      | (with_reducible exact LeO.refl _)
      | (with_reducible exact LeO.none _)
      | (with_reducible refine LeO.ite ?_ ?_)
      | (with_reducible refine LeO.bind ?_ (fun _ => ?_))
      | exact ih0 _ _ _
      | exact ih1 _ _ _ _ _
      | exact ih2 _ _ _ _ _ _ _
      | exact LeO.none _
      | refine LeO.ite ?_ ?_
      | refine LeO.bind ?_ (fun _ => ?_)
def mortmainlaw02_QueueTurns.T10 : Bool × List (List Nat × List Nat) := (true, [([], []), ([], []), ([], []), ([1, 2], [1, 2]), ([3], [3]), ([0, 4], [0, 4]), ([5], [5]), ([6], [6]), ([6], [6]), ([], []), ([9, 7, 5, 0, 1, 2, 3, 4, 5, 6, 7, 9], [7, 9]), ([8, 10, 0, 1, 2, 3, 4, 5, 6, 7, 8, 9, 10], [8])])
def mortmainlaw02_QueueTurns.B10 : List Nat := [0, 0, 0, 6, 14, 31, 63, 127, 127, 0, 767, 2047]
theorem mortmainlaw02_QueueTurns.tab10 : rtab .any (opsOf Try.f8 10) = mortmainlaw02_QueueTurns.T10 := by kernel_rfl
theorem mortmainlaw02_QueueTurns.bits10 : waitsOk mortmainlaw02_QueueTurns.T10.2 mortmainlaw02_QueueTurns.B10 = true := by kernel_rfl
set_option maxHeartbeats 8000000 in
set_option maxRecDepth 100000 in
theorem mortmainlaw02_QueueTurns.calls (k : Nat) (a0 : Int) (A1 : Option Addr) (c1 : Nat) (l1 : List Int) (r : Bool) (w : World) (hr1 : Kd.C (Kd.int .i64) w A1 l1.length l1) (hc1 : l1.length ≤ c1) (h : mortmainlaw02_QueueTurns.f k a0 l1 = some r) :
    Calls Try.prog 8 #[.int .u8 a0, .slice A1 l1.length c1] w fun e w' => e = .returned (.bool r) ∧ Below w.heap.size w w' := by
  have hu24 := Try.underlying24
  have HR1 := Aside0.mk hr1
  have HC1 := Aside0.mk hc1
  clear hr1 hc1
  have HB := Aside0.mk (Below.refl w.heap.size w)
  have H : (if (l1.length : Int) > 100 then (mortmainlaw02_QueueTurns.j0 k l1 (Int.tmod (wrap64 (a0)) 10) true) else ((mortmainlaw02_shown.f).bind fun t170 => (mortmainlaw02_QueueTurns.j0 k l1 (Int.tmod (wrap64 (a0)) 10) (!t170)))) = some r := h
  clear h
  have HC3 := Aside0.mk H
  clear H
  go_enter Try.func8, Try.ntmps8
  go_upto_region 2 with (fail)
  go_cut [23] (fun v23 wc => ∃ (kq : Nat) (x23_2 : Bool), v23 = .bool x23_2 ∧ Aside0 (mortmainlaw02_QueueTurns.j0 kq l1 (Int.tmod (wrap64 (a0)) 10) x23_2 = some r) ∧ Aside0 (kq ≤ k) ∧ Aside0 (Below w.heap.size w wc))
  case first =>
    have H := HC3.out
    clear HC3
    by_cases c4 : (l1.length : Int) > 100
    · rw [if_pos c4] at H
      have c4b0 : decide (100 < (l1.length : Int)) = true := decide_eq_true c4
      have c4b1 : decide (100 < l1.length) = true := decide_eq_true (by omega)
      clear c4
      (first | rw [c4b0] | (simp only [i64_w, i32_w]; rw [c4b0]) | skip)
      have H' := Aside0.mk H
      clear H
      go_wp2
      go_meet
      case rel => exact ⟨_, (true), (by first | rfl | (simp; done) | (simp [*]; done)), H', ⟨by first | omega | exact Nat.le_refl _⟩, ⟨by repeat (first | (with_reducible first | exact HB.out | apply below_alloc | apply pw_below_drewN | apply below_drew1) | exact HB.out)⟩⟩
    · rw [if_neg c4] at H
      have c4b0 : decide (100 < (l1.length : Int)) = false := decide_eq_false c4
      have c4b1 : decide (100 < l1.length) = false := decide_eq_false (by omega)
      clear c4
      (first | rw [c4b0] | (simp only [i64_w, i32_w]; rw [c4b0]) | skip)
      replace H := Option.bind_eq_some_iff.mp H
      obtain ⟨t170, A50, H⟩ := H
      replace H : (mortmainlaw02_QueueTurns.j0 k l1 (Int.tmod (wrap64 (a0)) 10) (!t170)) = some r := H
      have A5 := Aside0.mk A50
      clear A50
      have H' := Aside0.mk H
      clear H
      go_wp2_with (first | (go_at_call 9; (with_reducible refine (mortmainlaw02_shown.calls  t170 _ A5.out).mono ?_); rintro e w6 ⟨rfl, hb⟩; have n0_ := Aside0.mk (below_step (by repeat (first | (with_reducible first | exact HB.out | apply below_alloc | apply pw_below_drewN | apply below_drew1) | exact HB.out)) hb); clear HB; have HB := n0_; clear n0_; (try clear hb); (try clear hb2); (try clear hk); (try clear hi)))
      go_meet
      case rel => exact ⟨_, (!t170), (by first | rfl | (simp; done) | (simp [*]; done)), H', ⟨by first | omega | exact Nat.le_refl _⟩, ⟨by repeat (first | (with_reducible first | exact HB.out | apply below_alloc | apply pw_below_drewN | apply below_drew1) | exact HB.out)⟩⟩
  case rest =>
    clear HC3
    try clear c1
    try clear p2
    try clear c4
    try clear c4b0
    try clear c4b1
    try clear p6
    obtain ⟨kq, x23_2, rfl, HA, HJ2, HB⟩ := hcut
    cases kq with
    | zero => exact absurd HA.out (by simp [mortmainlaw02_QueueTurns.j0])
    | succ kj2 =>
      have H := HA.out
      clear HA
      simp only [mortmainlaw02_QueueTurns.j0] at H
      by_cases c7 : x23_2 = true
      · subst c7
        have H1 : ((mortmainlaw02_shown.f).bind fun t171 => (some t171)) = some r := by rw [if_pos rfl] at H; exact H
        clear H
        have H := H1
        clear H1
        replace H := Option.bind_eq_some_iff.mp H
        obtain ⟨t171, A80, H⟩ := H
        replace H : (some t171) = some r := H
        have A8 := Aside0.mk A80
        clear A80
        obtain rfl := Option.some.inj H
        go_wp2_with (first | ((with_reducible refine gate_callee (f := 9) rfl ?_); refine goesL_ (some 24) rfl rfl Try.func9 (by kernel_rfl) rfl #[] rfl (by (try simp only [List.map_toArray, List.map_cons, List.map_nil]); first | done | rfl | (simp only [List.length_drop, List.length_take]; rfl)) ?_; (with_reducible refine (mortmainlaw02_shown.calls  t171 _ A8.out).mono ?_); rintro e w9 ⟨rfl, hb⟩; refine ⟨_, rfl, ?_⟩; have n0_ := Aside0.mk (below_step (by repeat (first | (with_reducible first | exact HB.out | apply below_alloc | apply pw_below_drewN | apply below_drew1) | exact HB.out)) hb); clear HB; have HB := n0_; clear n0_; (try clear hb); (try clear hb2); (try clear hk); (try clear hi)))
        go_ret
        exact ⟨by first | rfl | (simp [errW_none, errW_some] <;> rfl) | (simp [*, errW_none, errW_some] <;> rfl), by repeat (first | (with_reducible first | exact HB.out | apply below_alloc | apply pw_below_drewN | apply below_drew1) | exact HB.out)⟩
      · replace c7 := Bool.eq_false_iff.mpr c7
        subst c7
        have H1 : ((queue_New_int.f (Int.tmod (wrap64 (a0)) 10)).bind fun bt172 => (mortmainlaw02_QueueTurns.l0 kj2 l1 (([] : List Int)) 0 bt172.1 bt172.2)) = some r := by rw [if_neg (show ¬ (false = true) by decide)] at H; exact H
        clear H
        have H := H1
        clear H1
        replace H := Option.bind_eq_some_iff.mp H
        obtain ⟨⟨t172, t175⟩, A100, H⟩ := H
        replace H : (mortmainlaw02_QueueTurns.l0 kj2 l1 (([] : List Int)) 0 t172 t175) = some r := H
        have A10 := Aside0.mk A100
        clear A100
        obtain ⟨y177, hy177⟩ : ∃ y_ : List Int, y_ = (([] : List Int)) := ⟨_, rfl⟩
        replace H : (mortmainlaw02_QueueTurns.l0 kj2 l1 y177 0 t172 t175) = some r := by first | (rw [hy177]; with_reducible exact H) | (have H2_ := (Option.bind_some _ _).symm.trans H; rw [hy177]; with_reducible exact H2_) | (have H2_ := (Option.bind_some _ _).symm.trans H; with_reducible exact H2_) | with_reducible exact H | (rw [hy177]; exact H) | exact H
        have Ny177 := Aside0.mk hy177
        clear hy177
        have H' := Aside0.mk H
        clear H
        go_wp2_with (first | ((with_reducible refine gate_callee (f := 20) rfl ?_); refine goesL_ (some 26) rfl rfl Try.func20 (by kernel_rfl) rfl #[.int .i64 (Int.tmod (wrap64 (a0)) 10)] rfl (by (try simp only [List.map_toArray, List.map_cons, List.map_nil]); first | done | rfl | (simp only [List.length_drop, List.length_take]; rfl)) ?_; (with_reducible refine (queue_New_int.calls (Int.tmod (wrap64 (a0)) 10) t172 t175 _ A10.out).mono ?_); rintro e w11 ⟨v173, rfl, ho0, hb⟩; refine ⟨_, rfl, ?_⟩; have n0_ := Aside0.mk (Kd.R_lower ho0 (below_size (by repeat (first | (with_reducible first | exact HB.out | apply below_alloc | apply pw_below_drewN | apply below_drew1) | exact HB.out)))); have n1_ := Aside0.mk (below_step (by repeat (first | (with_reducible first | exact HB.out | apply below_alloc | apply pw_below_drewN | apply below_drew1) | exact HB.out)) hb); clear HB; have HO174 := n0_; have HB := n1_; clear n0_ n1_; (try clear hb); (try clear hb2); (try clear hk); (try clear hi); (try clear ho0)) | ((with_reducible refine gate_dst (N := 6) rfl ?_); refine box_event ?hg (N := 6) ?hd (cs := #[.slice none 0 0, .int .i64 0]) (t := 24) ?hr ?_; (case hd => rfl); (case hg => rfl); (case hr => first | (go_simp; done) | (go_simp; rfl)); intro gb176 hg w12 hbox hb; have n0_ := Aside0.mk (Kd.R_below (by (with_reducible repeat (first | apply Kd.R_alloc | apply Kd.R_drewN | apply Kd.R_drew)); exact HO174.out) hb); have n1_ := Aside0.mk (below_step (by repeat (first | (with_reducible first | exact HB.out | apply below_alloc | apply pw_below_drewN | apply below_drew1) | exact HB.out)) hb); have n2_ := Aside0.mk (hbox); have n3_ := Aside0.mk ((by rw [hg]; exact (below_size (by repeat (first | (with_reducible first | exact HB.out | apply below_alloc | apply pw_below_drewN | apply below_drew1) | exact HB.out))) : w.heap.size ≤ gb176)); have n4_ := Aside0.mk ((by rw [hg]; exact (below_size (by repeat (first | (with_reducible first | exact HB.out | apply below_alloc | apply pw_below_drewN | apply below_drew1) | exact HB.out))) : w.heap.size ≤ gb176)); clear HO174; clear HB; have HO174 := n0_; have HB := n1_; have BK176 := n2_; have GW176 := n3_; have GE176 := n4_; clear n0_ n1_ n2_ n3_ n4_; clear hb hbox hg; obtain ⟨Ao13, co13, eo13⟩ := Kd.R_slice HO174.out; subst eo13; have hcz14_0 : w12.cell? ⟨gb176, 0, none⟩ = some (.slice none 0 0) := (blk_cell BK176.out 0).trans rfl; have hcz14_1 : w12.cell? ⟨gb176, 1, none⟩ = some (.int .i64 0) := (blk_cell BK176.out 1).trans rfl; have hfz14_0 := blk_frozen BK176.out 0; have hfz14_1 := blk_frozen BK176.out 1) | ((with_reducible refine gate_dst (N := 27) rfl ?_); refine Kd.R_lit (Kd.int .i64) _ 3 ?hg (N := 27) ?hd (xs := ([] : List Int)) (inner := []) (ok := fun _ => True) (okp := fun _ => True) ?hr ?hp (fun _ hk => hk) trivial (Below.refl _ _) (Nat.le_refl _) (by simp) ?_; (case hd => rfl); (case hg => rfl); (case hr => first | (go_simp; done) | (go_simp; rfl)); (case hp => exact (Reps.none _ _)); intro v178 w15 ho16 hb hg_ hnew_; clear hg_ hnew_; (first | rw [← Ny177.out] at ho16 | (simp only [Int.reduceToNat] at ho16; rw [← Ny177.out] at ho16)); have n0_ := Aside0.mk (Kd.R_elder' (by (with_reducible repeat (first | apply Kd.R_alloc | apply Kd.R_drewN | apply Kd.R_drew)); exact (Kd.R_mono (Kd.R_far (p := ⟨gb176, 1, none⟩) (Kd.R_far (p := ⟨gb176, 0, none⟩) (Kd.R_types HO174.out BK176.out (by decide)) (fun _ hk => hk.2) (.slice Ao13 t172.length co13)) (fun _ hk => hk.2) (.int .i64 t175)) (fun _ h_ => h_.1))) (Kd.R_base ho16) hb); have n1_ := Aside0.mk (Kd.R_lower (Kd.R_new' ho16 (Kd.R_lt (by (with_reducible repeat (first | apply Kd.R_alloc | apply Kd.R_drewN | apply Kd.R_drew)); exact (Kd.R_mono (Kd.R_far (p := ⟨gb176, 1, none⟩) (Kd.R_far (p := ⟨gb176, 0, none⟩) (Kd.R_types HO174.out BK176.out (by decide)) (fun _ hk => hk.2) (.slice Ao13 t172.length co13)) (fun _ hk => hk.2) (.int .i64 t175)) (fun _ h_ => h_.1))))) (below_size (by repeat (first | (with_reducible first | exact HB.out | apply below_alloc | apply pw_below_drewN | apply below_drew1 | refine below_set ?_ GE176.out) | exact HB.out)))); have n2_ := Aside0.mk (blk_below (g := gb176) (o := .cells #[.slice Ao13 t172.length co13, .int .i64 t175] 24 (0, 0)) (by (with_reducible repeat (first | refine blk_drewN ?_ _ | refine blk_drew ?_ | refine blk_alloc ?_ _)); refine blk_put (cs := #[.slice Ao13 t172.length co13, .int .i64 0]) ?_ 1 _ rfl; (with_reducible repeat (first | refine blk_drewN ?_ _ | refine blk_drew ?_ | refine blk_alloc ?_ _)); refine blk_put (cs := #[.slice none 0 0, .int .i64 0]) ?_ 0 _ rfl; (with_reducible repeat (first | refine blk_drewN ?_ _ | refine blk_drew ?_ | refine blk_alloc ?_ _)); exact BK176.out) hb); have n3_ := Aside0.mk (below_step (by repeat (first | (with_reducible first | exact HB.out | apply below_alloc | apply pw_below_drewN | apply below_drew1 | refine below_set ?_ GE176.out) | exact HB.out)) hb); clear HO174; clear BK176; clear HB; have HO174 := n0_; have HO179 := n1_; have BK176 := n2_; have HB := n3_; clear n0_ n1_ n2_ n3_; clear hb ho16))
        go_loopg [7, 8] kj2 (fun kq v7 v8 w' => ∃ (x7_2 : List Int) (x8_2 : Int) (x177000_2 : List Int) (x177001_2 : Int) (u177000 : Value), v8 = .int .i64 x8_2 ∧ Aside0 (mortmainlaw02_QueueTurns.l0 kq l1 x7_2 x8_2 x177000_2 x177001_2 = some r) ∧ Aside0 (kq ≤ kj2) ∧ Aside0 (Kd.Q (Kd.int .i64) 3 w' w.heap.size (fun _ => True) v7 x7_2) ∧ Aside0 (Kd.V (Kd.int .i64) 3 w' w.heap.size (fun k_ => some k_ ≠ (v7 : Value).ownBlock ∧ k_ ≠ gb176) u177000 x177000_2) ∧ Aside0 (w'.heap[gb176]? = some (.cells #[u177000, .int .i64 x177001_2] 24 (0, 0))) ∧ Aside0 (Below w.heap.size w w'))
        case atStart => exact ⟨(y177), (0), (t172), (t175), (.slice Ao13 t172.length co13), (by first | rfl | (simp; done) | (simp [*]; done)), H', ⟨Nat.le_refl _⟩, ⟨Kd.Q_of_R (by (with_reducible repeat (first | apply Kd.R_alloc | apply Kd.R_drewN | apply Kd.R_drew)); exact Kd.R_mono HO179.out (fun _ hk => trivial))⟩, ⟨Kd.R_V (by (with_reducible repeat (first | apply Kd.R_alloc | apply Kd.R_drewN | apply Kd.R_drew)); exact Kd.R_mono (Kd.R_types HO174.out BK176.out (by decide)) (fun _ hk => ⟨hk.1.2, hk.2⟩))⟩, ⟨by (with_reducible repeat (first | refine blk_drewN ?_ _ | refine blk_drew ?_ | refine blk_alloc ?_ _)); exact BK176.out⟩, ⟨by repeat (first | (with_reducible first | exact HB.out | apply below_alloc | apply pw_below_drewN | apply below_drew1 | refine below_set ?_ GE176.out) | exact HB.out)⟩⟩
        case round =>
          clear H'
          try clear c1
          try clear c2
          try clear p2
          try clear c4
          try clear c4b0
          try clear c4b1
          try clear p6
          try clear c7
          try clear c8
          try clear c9
          try clear hcz14_0
          try clear hcz14_1
          try clear hfz14_0
          try clear hfz14_1
          try clear p2
          try clear p6
          obtain ⟨x7_2, x8_2, x177000_2, x177001_2, u177000, rfl, HA, HK2, HO_7, HO_177000, BK176, HB⟩ := hrel
          cases gk with
          | zero => exact absurd HA.out (by simp [mortmainlaw02_QueueTurns.l0])
          | succ k2 =>
            have H := HA.out
            clear HA
            simp only [mortmainlaw02_QueueTurns.l0] at H
            by_cases c17 : x8_2 < (l1.length : Int)
            · rw [if_pos c17] at H
              have c17b0 : decide (x8_2 < (l1.length : Int)) = true := decide_eq_true c17
              clear c17
              by_cases c18 : 0 ≤ x8_2
              · rw [if_pos c18] at H
                have c18b0 : decide (0 ≤ x8_2) = true := decide_eq_true c18
                clear c18
                by_cases c19 : (Int.tmod (rd l1 x8_2) 2) = 0
                · rw [if_pos c19] at H
                  have c19b0 : ((Int.tmod (rd l1 x8_2) 2) == 0) = true := beq_iff_eq.mpr c19
                  have c19b1 : ((Int.tmod (rd l1 x8_2) 2) != 0) = false := bne_eq_false_iff_eq.mpr c19
                  clear c19
                  replace H := Option.bind_eq_some_iff.mp H
                  obtain ⟨⟨t182, t185, t186⟩, A200, H⟩ := H
                  replace H : (if t186 = 0 then (if x7_2.length < 17592186044416 then ((some (x7_2 ++ [rd l1 x8_2] : List Int)).bind fun y189 => ((queue_Len_int.f t182 t185).bind fun t192 => (if t192 = (y189.length : Int) then (mortmainlaw02_QueueTurns.l0 k2 l1 y189 (wrap64 (x8_2 + 1)) t182 t185) else (none)))) else (none)) else ((queue_Len_int.f t182 t185).bind fun t193 => (if t193 = (x7_2.length : Int) then (mortmainlaw02_QueueTurns.l0 k2 l1 x7_2 (wrap64 (x8_2 + 1)) t182 t185) else (none)))) = some r := H
                  have A20 := Aside0.mk A200
                  clear A200
                  by_cases c21 : t186 = 0
                  · rw [if_pos c21] at H
                    have c21b0 : (t186 == 0) = true := beq_iff_eq.mpr c21
                    have c21b1 : (t186 != 0) = false := bne_eq_false_iff_eq.mpr c21
                    clear c21
                    by_cases c22 : x7_2.length < 17592186044416
                    · rw [if_pos c22] at H
                      have LMc22 := Aside0.mk c22
                      clear c22
                      obtain ⟨y189, hy189⟩ : ∃ y_ : List Int, y_ = (x7_2 ++ [rd l1 x8_2]) := ⟨_, rfl⟩
                      replace H : ((queue_Len_int.f t182 t185).bind fun t192 => (if t192 = (y189.length : Int) then (mortmainlaw02_QueueTurns.l0 k2 l1 y189 (wrap64 (x8_2 + 1)) t182 t185) else (none))) = some r := by first | (rw [hy189]; with_reducible exact H) | (have H2_ := (Option.bind_some _ _).symm.trans H; rw [hy189]; with_reducible exact H2_) | (have H2_ := (Option.bind_some _ _).symm.trans H; with_reducible exact H2_) | with_reducible exact H | (rw [hy189]; exact H) | exact H
                      have Ny189 := Aside0.mk hy189
                      clear hy189
                      replace H := Option.bind_eq_some_iff.mp H
                      obtain ⟨t192, A230, H⟩ := H
                      replace H : (if t192 = (y189.length : Int) then (mortmainlaw02_QueueTurns.l0 k2 l1 y189 (wrap64 (x8_2 + 1)) t182 t185) else (none)) = some r := H
                      have A23 := Aside0.mk A230
                      clear A230
                      by_cases c24 : t192 = (y189.length : Int)
                      · rw [if_pos c24] at H
                        have c24b0 : (t192 == (y189.length : Int)) = true := beq_iff_eq.mpr c24
                        have c24b1 : (t192 != (y189.length : Int)) = false := bne_eq_false_iff_eq.mpr c24
                        clear c24
                        have H' := Aside0.mk H
                        clear H
                        have p180 : 0 ≤ (x8_2 : Int) := of_decide_eq_true (by first | (with_reducible assumption) | assumption)
                        have q180 : x8_2 < (l1.length : Int) := of_decide_eq_true (by first | (with_reducible assumption) | assumption)
                        obtain ⟨ad180, e180, hx180_0⟩ := Kd.at_int HR1.out x8_2 p180 q180
                        cases e180
                        replace hx180_0 := (HB.out.cell (World.block_lt_of_cell? w _ hx180_0)).trans hx180_0
                        replace p180 := eq_true p180
                        replace q180 := eq_true q180
                        obtain ⟨Ao25, co25, eo25⟩ := Kd.V_slice HO_177000.out
                        subst eo25
                        try go_wp2
                        have n0_ := Aside0.mk (Kd.Q_drew HO_7.out)
                        have n1_ := Aside0.mk (Kd.V_drew HO_177000.out)
                        have n2_ := Aside0.mk (blk_drew BK176.out)
                        have n3_ := Aside0.mk (below_drew1 HB.out)
                        clear HO_7
                        clear HO_177000
                        clear BK176
                        clear HB
                        have HO_7 := n0_
                        have HO_177000 := n1_
                        have BK176 := n2_
                        have HB := n3_
                        clear n0_ n1_ n2_ n3_
                        have p181 : 0 ≤ (x8_2 : Int) := of_decide_eq_true (by first | (with_reducible assumption) | assumption)
                        have q181 : x8_2 < (l1.length : Int) := of_decide_eq_true (by first | (with_reducible assumption) | assumption)
                        obtain ⟨ad181, e181, hx181_0⟩ := Kd.at_int HR1.out x8_2 p181 q181
                        have hw181_0 := hx181_0
                        obtain rfl : ad180 = ad181 := (by injection e181)
                        replace hx181_0 := (HB.out.cell (World.block_lt_of_cell? w _ hx181_0)).trans hx181_0
                        replace p181 := eq_true p181
                        replace q181 := eq_true q181
                        refine start_ (n := 12) (S := fun w' => w'.cell? ⟨gb176, 0, none⟩ = some (.slice Ao25 x177000_2.length co25) ∧ w'.cell? ⟨gb176, 1, none⟩ = some (.int .i64 x177001_2) ∧ w'.cell? (ad180.add (x8_2).toNat) = some (.int .i64 (rd l1 x8_2))) (ds := []) #[false, false, false, false, false, false, false, false, false, false, false, false] (by kernel_rfl) rfl rfl ⟨(blk_cell BK176.out 0).trans rfl, (blk_cell BK176.out 1).trans rfl, ((HB.out.cell (World.block_lt_of_cell? w _ hw181_0)).trans hw181_0)⟩ (fun hHeld => ?_); refine with_tabW mortmainlaw02_QueueTurns.tab10 mortmainlaw02_QueueTurns.bits10 (fun HT_ HW_ => ?_)
                        generalize wr.drew = w26 at HO_7 HO_177000 BK176 HB hx181_0 hHeld ⊢
                        refine pure_ (i := 1) (N := some 42) (v := ?_) (a' := ?_) #[false, true, false, false, false, false, false, false, false, false, false, false] rfl rfl (any_of HT_.out (by kernel_rfl)) (fun _ _ _ h => h) (Or.inl ⟨by rfl, ?_⟩) ?_ ?_
                        rotate_left
                        · intro w'
                          go_simp
                          with_reducible rfl
                        rotate_left
                        · simp only [Act.put, List.setIfInBounds_toArray, List.set_cons_zero, List.set_cons_succ, i64_w, i32_w]
                          rfl
                        refine pure_ (i := 2) (N := some 43) (v := ?_) (a' := ?_) #[false, true, true, false, false, false, false, false, false, false, false, false] rfl rfl (any_of HT_.out (by kernel_rfl)) (fun _ _ _ h => h) (Or.inl ⟨by rfl, ?_⟩) ?_ ?_
                        rotate_left
                        · intro w'
                          go_simp
                          with_reducible rfl
                        rotate_left
                        · simp only [Act.put, List.setIfInBounds_toArray, List.set_cons_zero, List.set_cons_succ, i64_w, i32_w]
                          rfl
                        refine pure_ (i := 3) (N := some 44) (v := ?_) (a' := ?_) #[false, true, true, true, false, false, false, false, false, false, false, false] rfl rfl (any_of HT_.out (by kernel_rfl)) (fun _ _ _ h => h) (Or.inl ⟨by rfl, ?_⟩) ?_ ?_
                        rotate_left
                        · intro w'
                          go_simp
                          with_reducible rfl
                        rotate_left
                        · simp only [Act.put, List.setIfInBounds_toArray, List.set_cons_zero, List.set_cons_succ, i64_w, i32_w]
                          rfl
                        refine take_ (i := 0) (N := some 41) (v := ?_) (a' := ?_) #[true, true, true, true, false, false, false, false, false, false, false, false] rfl rfl (take_ofW HT_.out HW_.out (by kernel_rfl)) (fun _ _ _ h => h) (Or.inl ⟨by rfl, ?_⟩) hHeld ?_ ?_
                        rotate_left
                        · rintro w' ⟨s0, s1, s2⟩
                          try simp only [Int.toNat_natCast] at s0 s1 s2
                          go_simp
                          with_reducible rfl
                        rotate_left
                        · simp only [Act.put, List.setIfInBounds_toArray, List.set_cons_zero, List.set_cons_succ, i64_w, i32_w]
                          rfl
                        refine take_ (i := 4) (N := some 45) (v := ?_) (a' := ?_) #[true, true, true, true, true, false, false, false, false, false, false, false] rfl rfl (take_ofW HT_.out HW_.out (by kernel_rfl)) (fun _ _ _ h => h) (Or.inl ⟨by rfl, ?_⟩) hHeld ?_ ?_
                        rotate_left
                        · rintro w' ⟨s0, s1, s2⟩
                          try simp only [Int.toNat_natCast] at s0 s1 s2
                          go_simp
                          with_reducible rfl
                        rotate_left
                        · simp only [Act.put, List.setIfInBounds_toArray, List.set_cons_zero, List.set_cons_succ, i64_w, i32_w]
                          rfl
                        refine join_ (σ := Value × Nat) 2 #[true, true, true, true, true, true, true, true, true, true, false, false] (fun s_ => [(46, .tuple #[.agg #[s_.1, .int .i64 t185], .int .i64 t186]), (9, .pointer (some ⟨s_.2, 0, none⟩)), (40, .tuple #[.agg #[s_.1, .int .i64 t185], .int .i64 t186]), (47, .agg #[s_.1, .int .i64 t185]), (48, .int .i64 t186)]) (fun s_ w' => (w'.cell? ⟨gb176, 0, none⟩ = some (.slice Ao25 x177000_2.length co25) ∧ w'.cell? ⟨gb176, 1, none⟩ = some (.int .i64 x177001_2) ∧ w'.cell? (ad180.add (x8_2).toNat) = some (.int .i64 (rd l1 x8_2))) ∧ (Kd.V (Kd.int .i64) 3 w' w.heap.size (fun k_ => some k_ ≠ (u7 : Value).ownBlock ∧ k_ ≠ gb176 ∧ k_ ≠ s_.2) s_.1 t182) ∧ (Kd.V (Kd.int .i64) 3 w' w.heap.size (fun k_ => some k_ ≠ (u7 : Value).ownBlock ∧ k_ ≠ gb176 ∧ k_ ≠ s_.2) (.slice Ao25 x177000_2.length co25) x177000_2) ∧ (Kd.Q (Kd.int .i64) 3 w' w.heap.size (fun _ => True) u7 x7_2) ∧ (w'.heap[gb176]? = some (.cells #[.slice Ao25 x177000_2.length co25, .int .i64 x177001_2] 24 (0, 0))) ∧ (w'.heap[s_.2]? = some (.cells #[.slice none 0 0, .int .i64 0] 24 (0, 0))) ∧ (w.heap.size ≤ s_.2) ∧ (w.heap.size ≤ s_.2) ∧ (gb176 ≠ s_.2) ∧ (s_.2 ≠ gb176) ∧ (Below w.heap.size w w')) ?_ ?_
                        rotate_left
                        · intro hCont
                          refine two_ (i := 5) (j := 9) (Ni := some 46) (Nj := some 9) #[true, true, true, true, true, true, false, false, false, false, false, false] #[true, true, true, true, true, false, false, false, false, true, false, false] rfl rfl rfl rfl (two_of HT_.out (by kernel_rfl)) (by decide) (by decide) (fun K hK => ?_) (fun K hK => ?_)
                          · skip
                            refine goes_ Try.func10 (by kernel_rfl) rfl #[.agg #[.slice Ao25 x177000_2.length co25, .int .i64 x177001_2], .int .i64 (rd l1 x8_2)] (by rfl) rfl rfl (by (try simp only [List.map_toArray, List.map_cons, List.map_nil]); first | done | rfl | (simp only [List.length_drop, List.length_take]; rfl)) ?_
                            with_reducible refine (queue_Push_int.calls (fun k_ => (some k_ ≠ (u7 : Value).ownBlock ∧ k_ ≠ gb176)) _ _ x177000_2 x177001_2 (rd l1 x8_2) t182 t185 t186 _ ?side1 A20.out).mono ?_
                            (case side1 => exact HO_177000.out)
                            rintro e w27 ⟨v183, rfl, ho0, hb⟩
                            refine ⟨_, rfl, ?_⟩
                            have n0_ := Aside0.mk (Kd.Q_below (by (with_reducible repeat (first | apply Kd.Q_alloc | apply Kd.Q_drewN | apply Kd.Q_drew)); exact HO_7.out) hb)
                            have n1_ := Aside0.mk (Kd.V_below (by (with_reducible repeat (first | apply Kd.V_alloc | apply Kd.V_drewN | apply Kd.V_drew)); exact HO_177000.out) hb)
                            have n2_ := Aside0.mk (Kd.V_lower (Kd.V_mono (ok' := fun k_ => some k_ ≠ (u7 : Value).ownBlock ∧ k_ ≠ gb176) ho0 (fun k_ hk_ => ⟨Or.elim hk_ (fun hs_ => hs_.1) (fun hn_ => (Kd.fresh' (Kd.Q_lt (by (with_reducible repeat (first | apply Kd.Q_alloc | apply Kd.Q_drewN | apply Kd.Q_drew)); exact HO_7.out)) k_ hn_)), Or.elim hk_ (fun hs_ => hs_.2) (fun hn_ => (Kd.freshB (g := gb176) (o := .cells #[.slice Ao25 x177000_2.length co25, .int .i64 x177001_2] 24 (0, 0)) (by (with_reducible repeat (first | refine blk_drewN ?_ _ | refine blk_drew ?_ | refine blk_alloc ?_ _)); exact BK176.out) k_ hn_))⟩)) (below_size (by repeat (first | (with_reducible first | exact HB.out | apply below_alloc | apply pw_below_drewN | apply below_drew1 | refine below_set ?_ GE176.out) | exact HB.out))))
                            have n3_ := Aside0.mk (blk_below (g := gb176) (o := .cells #[.slice Ao25 x177000_2.length co25, .int .i64 x177001_2] 24 (0, 0)) (by (with_reducible repeat (first | refine blk_drewN ?_ _ | refine blk_drew ?_ | refine blk_alloc ?_ _)); exact BK176.out) hb)
                            have n4_ := Aside0.mk (below_step (by repeat (first | (with_reducible first | exact HB.out | apply below_alloc | apply pw_below_drewN | apply below_drew1 | refine below_set ?_ GE176.out) | exact HB.out)) hb)
                            clear HO_7
                            clear HO_177000
                            clear BK176
                            clear HB
                            have HO_7 := n0_
                            have HO_177000 := n1_
                            have HO184 := n2_
                            have BK176 := n3_
                            have HB := n4_
                            clear n0_ n1_ n2_ n3_ n4_
                            (try clear hb)
                            (try clear hb2)
                            (try clear hk)
                            (try clear hi)
                            (try clear ho0)
                            refine hK.out _ _ ⟨(blk_cell BK176.out 0).trans rfl, (blk_cell BK176.out 1).trans rfl, ((HB.out.cell (World.block_lt_of_cell? w _ hw181_0)).trans hw181_0)⟩ (fun hHeld => ?_)
                            clear hK K
                            refine norm_ (a' := ?_) ?_ ?_
                            rotate_left
                            · show Act.put _ (some 46) _ = _
                              simp only [Act.put, List.setIfInBounds_toArray, List.set_cons_zero, List.set_cons_succ, i64_w, i32_w]
                              rfl
                            refine pure_ (i := 6) (N := some 40) (v := ?_) (a' := ?_) #[true, true, true, true, true, true, true, false, false, false, false, false] rfl rfl (any_of HT_.out (by kernel_rfl)) (fun _ _ _ h => h) (Or.inl ⟨by rfl, ?_⟩) ?_ ?_
                            rotate_left
                            · intro w'
                              go_simp
                              with_reducible rfl
                            rotate_left
                            · simp only [Act.put, List.setIfInBounds_toArray, List.set_cons_zero, List.set_cons_succ, i64_w, i32_w]
                              rfl
                            refine pure_ (i := 7) (N := some 47) (v := ?_) (a' := ?_) #[true, true, true, true, true, true, true, true, false, false, false, false] rfl rfl (any_of HT_.out (by kernel_rfl)) (fun _ _ _ h => h) (Or.inl ⟨by rfl, ?_⟩) ?_ ?_
                            rotate_left
                            · intro w'
                              go_simp
                              with_reducible rfl
                            rotate_left
                            · simp only [Act.put, List.setIfInBounds_toArray, List.set_cons_zero, List.set_cons_succ, i64_w, i32_w]
                              rfl
                            refine pure_ (i := 8) (N := some 48) (v := ?_) (a' := ?_) #[true, true, true, true, true, true, true, true, true, false, false, false] rfl rfl (any_of HT_.out (by kernel_rfl)) (fun _ _ _ h => h) (Or.inl ⟨by rfl, ?_⟩) ?_ ?_
                            rotate_left
                            · intro w'
                              go_simp
                              with_reducible rfl
                            rotate_left
                            · simp only [Act.put, List.setIfInBounds_toArray, List.set_cons_zero, List.set_cons_succ, i64_w, i32_w]
                              rfl
                            refine one_ (i := 9) (N := some 9) #[true, true, true, true, true, true, true, true, true, true, false, false] rfl rfl (one_of HT_.out (by kernel_rfl)) (by decide) (fun K hK => ?_)
                            refine box_step ?hg (N := 9) ?hd (cs := #[.slice none 0 0, .int .i64 0]) (t := 24) ?hr ?_; (case hd => rfl); (case hg => rfl); (case hr => first | (go_simp; done) | (go_simp; rfl))
                            intro gb187 hg w28 hbox hb
                            have n0_ := Aside0.mk (Kd.Q_below (by (with_reducible repeat (first | apply Kd.Q_alloc | apply Kd.Q_drewN | apply Kd.Q_drew)); exact HO_7.out) hb)
                            have n1_ := Aside0.mk (Kd.V_below (Kd.V_elderB (by (with_reducible repeat (first | apply Kd.V_alloc | apply Kd.V_drewN | apply Kd.V_drew)); exact HO_177000.out) gb187 (Nat.le_of_eq hg.symm)) hb)
                            have n2_ := Aside0.mk (Kd.V_below (Kd.V_elderB (by (with_reducible repeat (first | apply Kd.V_alloc | apply Kd.V_drewN | apply Kd.V_drew)); exact HO184.out) gb187 (Nat.le_of_eq hg.symm)) hb)
                            have n3_ := Aside0.mk (blk_below (g := gb176) (o := .cells #[.slice Ao25 x177000_2.length co25, .int .i64 x177001_2] 24 (0, 0)) (by (with_reducible repeat (first | refine blk_drewN ?_ _ | refine blk_drew ?_ | refine blk_alloc ?_ _)); exact BK176.out) hb)
                            have n4_ := Aside0.mk (below_step (by repeat (first | (with_reducible first | exact HB.out | apply below_alloc | apply pw_below_drewN | apply below_drew1 | refine below_set ?_ GE176.out) | exact HB.out)) hb)
                            have n5_ := Aside0.mk (hbox)
                            have n6_ := Aside0.mk ((by rw [hg]; exact (below_size (by repeat (first | (with_reducible first | exact HB.out | apply below_alloc | apply pw_below_drewN | apply below_drew1 | refine below_set ?_ GE176.out) | exact HB.out))) : w.heap.size ≤ gb187))
                            have n7_ := Aside0.mk ((by rw [hg]; exact (below_size (by repeat (first | (with_reducible first | exact HB.out | apply below_alloc | apply pw_below_drewN | apply below_drew1 | refine below_set ?_ GE176.out) | exact HB.out))) : w.heap.size ≤ gb187))
                            have n8_ := Aside0.mk ((by rw [hg]; exact Nat.ne_of_lt (blk_lt (g := gb176) (o := .cells #[.slice Ao25 x177000_2.length co25, .int .i64 x177001_2] 24 (0, 0)) (by (with_reducible repeat (first | refine blk_drewN ?_ _ | refine blk_drew ?_ | refine blk_alloc ?_ _)); exact BK176.out)) : gb176 ≠ gb187))
                            have n9_ := Aside0.mk ((by rw [hg]; exact Nat.ne_of_gt (blk_lt (g := gb176) (o := .cells #[.slice Ao25 x177000_2.length co25, .int .i64 x177001_2] 24 (0, 0)) (by (with_reducible repeat (first | refine blk_drewN ?_ _ | refine blk_drew ?_ | refine blk_alloc ?_ _)); exact BK176.out)) : gb187 ≠ gb176))
                            clear HO_7
                            clear HO_177000
                            clear HO184
                            clear BK176
                            clear HB
                            have HO_7 := n0_
                            have HO_177000 := n1_
                            have HO184 := n2_
                            have BK176 := n3_
                            have HB := n4_
                            have BK187 := n5_
                            have GW187 := n6_
                            have GE187 := n7_
                            have NB176_187 := n8_
                            have NB187_176 := n9_
                            clear n0_ n1_ n2_ n3_ n4_ n5_ n6_ n7_ n8_ n9_
                            clear hb hbox hg
                            refine hK.out _ _ ⟨(blk_cell BK176.out 0).trans rfl, (blk_cell BK176.out 1).trans rfl, ((HB.out.cell (World.block_lt_of_cell? w _ hw181_0)).trans hw181_0)⟩ (fun hHeld => ?_)
                            clear hK K
                            refine norm_ (a' := ?_) ?_ ?_
                            rotate_left
                            · show Act.put _ (some 9) _ = _
                              simp only [Act.put, List.setIfInBounds_toArray, List.set_cons_zero, List.set_cons_succ, i64_w, i32_w]
                              rfl
                            exact norm_ (by simp only [putAll, Act.put, List.setIfInBounds_toArray, List.set_cons_zero, List.set_cons_succ]) (hCont (v183, gb187) _ ⟨hHeld, (by (with_reducible repeat (first | apply Kd.V_alloc | apply Kd.V_drewN | apply Kd.V_drew)); exact Kd.V_mono HO184.out (fun _ hk => ⟨hk.1.1, ⟨hk.1.2, hk.2⟩⟩)), (by (with_reducible repeat (first | apply Kd.V_alloc | apply Kd.V_drewN | apply Kd.V_drew)); exact Kd.V_mono HO_177000.out (fun _ hk => ⟨hk.1.1, ⟨hk.1.2, hk.2⟩⟩)), (by (with_reducible repeat (first | apply Kd.Q_alloc | apply Kd.Q_drewN | apply Kd.Q_drew)); exact HO_7.out), (by (with_reducible repeat (first | refine blk_drewN ?_ _ | refine blk_drew ?_ | refine blk_alloc ?_ _)); exact BK176.out), (by (with_reducible repeat (first | refine blk_drewN ?_ _ | refine blk_drew ?_ | refine blk_alloc ?_ _)); exact BK187.out), GW187.out, GE187.out, NB176_187.out, NB187_176.out, (by repeat (first | (with_reducible first | exact HB.out | apply below_alloc | apply pw_below_drewN | apply below_drew1 | refine below_set ?_ GE176.out | refine below_set ?_ GE187.out) | exact HB.out))⟩)
                          · skip
                            refine box_step ?hg (N := 9) ?hd (cs := #[.slice none 0 0, .int .i64 0]) (t := 24) ?hr ?_; (case hd => rfl); (case hg => rfl); (case hr => first | (go_simp; done) | (go_simp; rfl))
                            intro gb187 hg w27 hbox hb
                            have n0_ := Aside0.mk (Kd.Q_below (by (with_reducible repeat (first | apply Kd.Q_alloc | apply Kd.Q_drewN | apply Kd.Q_drew)); exact HO_7.out) hb)
                            have n1_ := Aside0.mk (Kd.V_below (Kd.V_elderB (by (with_reducible repeat (first | apply Kd.V_alloc | apply Kd.V_drewN | apply Kd.V_drew)); exact HO_177000.out) gb187 (Nat.le_of_eq hg.symm)) hb)
                            have n2_ := Aside0.mk (blk_below (g := gb176) (o := .cells #[.slice Ao25 x177000_2.length co25, .int .i64 x177001_2] 24 (0, 0)) (by (with_reducible repeat (first | refine blk_drewN ?_ _ | refine blk_drew ?_ | refine blk_alloc ?_ _)); exact BK176.out) hb)
                            have n3_ := Aside0.mk (below_step (by repeat (first | (with_reducible first | exact HB.out | apply below_alloc | apply pw_below_drewN | apply below_drew1 | refine below_set ?_ GE176.out) | exact HB.out)) hb)
                            have n4_ := Aside0.mk (hbox)
                            have n5_ := Aside0.mk ((by rw [hg]; exact (below_size (by repeat (first | (with_reducible first | exact HB.out | apply below_alloc | apply pw_below_drewN | apply below_drew1 | refine below_set ?_ GE176.out) | exact HB.out))) : w.heap.size ≤ gb187))
                            have n6_ := Aside0.mk ((by rw [hg]; exact (below_size (by repeat (first | (with_reducible first | exact HB.out | apply below_alloc | apply pw_below_drewN | apply below_drew1 | refine below_set ?_ GE176.out) | exact HB.out))) : w.heap.size ≤ gb187))
                            have n7_ := Aside0.mk ((by rw [hg]; exact Nat.ne_of_lt (blk_lt (g := gb176) (o := .cells #[.slice Ao25 x177000_2.length co25, .int .i64 x177001_2] 24 (0, 0)) (by (with_reducible repeat (first | refine blk_drewN ?_ _ | refine blk_drew ?_ | refine blk_alloc ?_ _)); exact BK176.out)) : gb176 ≠ gb187))
                            have n8_ := Aside0.mk ((by rw [hg]; exact Nat.ne_of_gt (blk_lt (g := gb176) (o := .cells #[.slice Ao25 x177000_2.length co25, .int .i64 x177001_2] 24 (0, 0)) (by (with_reducible repeat (first | refine blk_drewN ?_ _ | refine blk_drew ?_ | refine blk_alloc ?_ _)); exact BK176.out)) : gb187 ≠ gb176))
                            clear HO_7
                            clear HO_177000
                            clear BK176
                            clear HB
                            have HO_7 := n0_
                            have HO_177000 := n1_
                            have BK176 := n2_
                            have HB := n3_
                            have BK187 := n4_
                            have GW187 := n5_
                            have GE187 := n6_
                            have NB176_187 := n7_
                            have NB187_176 := n8_
                            clear n0_ n1_ n2_ n3_ n4_ n5_ n6_ n7_ n8_
                            clear hb hbox hg
                            refine hK.out _ _ ⟨(blk_cell BK176.out 0).trans rfl, (blk_cell BK176.out 1).trans rfl, ((HB.out.cell (World.block_lt_of_cell? w _ hw181_0)).trans hw181_0)⟩ (fun hHeld => ?_)
                            clear hK K
                            refine norm_ (a' := ?_) ?_ ?_
                            rotate_left
                            · show Act.put _ (some 9) _ = _
                              simp only [Act.put, List.setIfInBounds_toArray, List.set_cons_zero, List.set_cons_succ, i64_w, i32_w]
                              rfl
                            refine one_ (i := 5) (N := some 46) #[true, true, true, true, true, true, false, false, false, true, false, false] rfl rfl (one_of HT_.out (by kernel_rfl)) (by decide) (fun K hK => ?_)
                            refine goes_ Try.func10 (by kernel_rfl) rfl #[.agg #[.slice Ao25 x177000_2.length co25, .int .i64 x177001_2], .int .i64 (rd l1 x8_2)] (by rfl) rfl rfl (by (try simp only [List.map_toArray, List.map_cons, List.map_nil]); first | done | rfl | (simp only [List.length_drop, List.length_take]; rfl)) ?_
                            with_reducible refine (queue_Push_int.calls (fun k_ => ((some k_ ≠ (u7 : Value).ownBlock ∧ k_ ≠ gb176) ∧ k_ ≠ gb187)) _ _ x177000_2 x177001_2 (rd l1 x8_2) t182 t185 t186 _ ?side1 A20.out).mono ?_
                            (case side1 => exact HO_177000.out)
                            rintro e w28 ⟨v183, rfl, ho0, hb⟩
                            refine ⟨_, rfl, ?_⟩
                            have n0_ := Aside0.mk (Kd.Q_below (by (with_reducible repeat (first | apply Kd.Q_alloc | apply Kd.Q_drewN | apply Kd.Q_drew)); exact HO_7.out) hb)
                            have n1_ := Aside0.mk (Kd.V_below (by (with_reducible repeat (first | apply Kd.V_alloc | apply Kd.V_drewN | apply Kd.V_drew)); exact HO_177000.out) hb)
                            have n2_ := Aside0.mk (Kd.V_lower (Kd.V_mono (ok' := fun k_ => some k_ ≠ (u7 : Value).ownBlock ∧ k_ ≠ gb176 ∧ k_ ≠ gb187) ho0 (fun k_ hk_ => ⟨Or.elim hk_ (fun hs_ => hs_.1.1) (fun hn_ => (Kd.fresh' (Kd.Q_lt (by (with_reducible repeat (first | apply Kd.Q_alloc | apply Kd.Q_drewN | apply Kd.Q_drew)); exact HO_7.out)) k_ hn_)), Or.elim hk_ (fun hs_ => hs_.1.2) (fun hn_ => (Kd.freshB (g := gb176) (o := .cells #[.slice Ao25 x177000_2.length co25, .int .i64 x177001_2] 24 (0, 0)) (by (with_reducible repeat (first | refine blk_drewN ?_ _ | refine blk_drew ?_ | refine blk_alloc ?_ _)); exact BK176.out) k_ hn_)), Or.elim hk_ (fun hs_ => hs_.2) (fun hn_ => (Kd.freshB (g := gb187) (o := .cells #[.slice none 0 0, .int .i64 0] 24 (0, 0)) (by (with_reducible repeat (first | refine blk_drewN ?_ _ | refine blk_drew ?_ | refine blk_alloc ?_ _)); exact BK187.out) k_ hn_))⟩)) (below_size (by repeat (first | (with_reducible first | exact HB.out | apply below_alloc | apply pw_below_drewN | apply below_drew1 | refine below_set ?_ GE176.out | refine below_set ?_ GE187.out) | exact HB.out))))
                            have n3_ := Aside0.mk (blk_below (g := gb176) (o := .cells #[.slice Ao25 x177000_2.length co25, .int .i64 x177001_2] 24 (0, 0)) (by (with_reducible repeat (first | refine blk_drewN ?_ _ | refine blk_drew ?_ | refine blk_alloc ?_ _)); exact BK176.out) hb)
                            have n4_ := Aside0.mk (blk_below (g := gb187) (o := .cells #[.slice none 0 0, .int .i64 0] 24 (0, 0)) (by (with_reducible repeat (first | refine blk_drewN ?_ _ | refine blk_drew ?_ | refine blk_alloc ?_ _)); exact BK187.out) hb)
                            have n5_ := Aside0.mk (below_step (by repeat (first | (with_reducible first | exact HB.out | apply below_alloc | apply pw_below_drewN | apply below_drew1 | refine below_set ?_ GE176.out | refine below_set ?_ GE187.out) | exact HB.out)) hb)
                            clear HO_7
                            clear HO_177000
                            clear BK176
                            clear BK187
                            clear HB
                            have HO_7 := n0_
                            have HO_177000 := n1_
                            have HO184 := n2_
                            have BK176 := n3_
                            have BK187 := n4_
                            have HB := n5_
                            clear n0_ n1_ n2_ n3_ n4_ n5_
                            (try clear hb)
                            (try clear hb2)
                            (try clear hk)
                            (try clear hi)
                            (try clear ho0)
                            refine hK.out _ _ ⟨(blk_cell BK176.out 0).trans rfl, (blk_cell BK176.out 1).trans rfl, ((HB.out.cell (World.block_lt_of_cell? w _ hw181_0)).trans hw181_0)⟩ (fun hHeld => ?_)
                            clear hK K
                            refine norm_ (a' := ?_) ?_ ?_
                            rotate_left
                            · show Act.put _ (some 46) _ = _
                              simp only [Act.put, List.setIfInBounds_toArray, List.set_cons_zero, List.set_cons_succ, i64_w, i32_w]
                              rfl
                            refine pure_ (i := 6) (N := some 40) (v := ?_) (a' := ?_) #[true, true, true, true, true, true, true, false, false, true, false, false] rfl rfl (any_of HT_.out (by kernel_rfl)) (fun _ _ _ h => h) (Or.inl ⟨by rfl, ?_⟩) ?_ ?_
                            rotate_left
                            · intro w'
                              go_simp
                              with_reducible rfl
                            rotate_left
                            · simp only [Act.put, List.setIfInBounds_toArray, List.set_cons_zero, List.set_cons_succ, i64_w, i32_w]
                              rfl
                            refine pure_ (i := 7) (N := some 47) (v := ?_) (a' := ?_) #[true, true, true, true, true, true, true, true, false, true, false, false] rfl rfl (any_of HT_.out (by kernel_rfl)) (fun _ _ _ h => h) (Or.inl ⟨by rfl, ?_⟩) ?_ ?_
                            rotate_left
                            · intro w'
                              go_simp
                              with_reducible rfl
                            rotate_left
                            · simp only [Act.put, List.setIfInBounds_toArray, List.set_cons_zero, List.set_cons_succ, i64_w, i32_w]
                              rfl
                            refine pure_ (i := 8) (N := some 48) (v := ?_) (a' := ?_) #[true, true, true, true, true, true, true, true, true, true, false, false] rfl rfl (any_of HT_.out (by kernel_rfl)) (fun _ _ _ h => h) (Or.inl ⟨by rfl, ?_⟩) ?_ ?_
                            rotate_left
                            · intro w'
                              go_simp
                              with_reducible rfl
                            rotate_left
                            · simp only [Act.put, List.setIfInBounds_toArray, List.set_cons_zero, List.set_cons_succ, i64_w, i32_w]
                              rfl
                            exact norm_ (by simp only [putAll, Act.put, List.setIfInBounds_toArray, List.set_cons_zero, List.set_cons_succ]) (hCont (v183, gb187) _ ⟨hHeld, (by (with_reducible repeat (first | apply Kd.V_alloc | apply Kd.V_drewN | apply Kd.V_drew)); exact HO184.out), (by (with_reducible repeat (first | apply Kd.V_alloc | apply Kd.V_drewN | apply Kd.V_drew)); exact Kd.V_mono HO_177000.out (fun _ hk => ⟨hk.1.1, ⟨hk.1.2, hk.2⟩⟩)), (by (with_reducible repeat (first | apply Kd.Q_alloc | apply Kd.Q_drewN | apply Kd.Q_drew)); exact HO_7.out), (by (with_reducible repeat (first | refine blk_drewN ?_ _ | refine blk_drew ?_ | refine blk_alloc ?_ _)); exact BK176.out), (by (with_reducible repeat (first | refine blk_drewN ?_ _ | refine blk_drew ?_ | refine blk_alloc ?_ _)); exact BK187.out), GW187.out, GE187.out, NB176_187.out, NB187_176.out, (by repeat (first | (with_reducible first | exact HB.out | apply below_alloc | apply pw_below_drewN | apply below_drew1 | refine below_set ?_ GE176.out | refine below_set ?_ GE187.out) | exact HB.out))⟩)
                        rintro ⟨v183, gb187⟩ w29 ⟨hS_, h0_, h1_, h2_, h3_, h4_, h5_, h6_, h7_, h8_, h9_⟩
                        have n0_ : Aside0 (Kd.V (Kd.int .i64) 3 w29 w.heap.size (fun k_ => some k_ ≠ (u7 : Value).ownBlock ∧ k_ ≠ gb176 ∧ k_ ≠ gb187) v183 t182) := ⟨h0_⟩
                        have n1_ : Aside0 (Kd.V (Kd.int .i64) 3 w29 w.heap.size (fun k_ => some k_ ≠ (u7 : Value).ownBlock ∧ k_ ≠ gb176 ∧ k_ ≠ gb187) (.slice Ao25 x177000_2.length co25) x177000_2) := ⟨h1_⟩
                        have n2_ : Aside0 (Kd.Q (Kd.int .i64) 3 w29 w.heap.size (fun _ => True) u7 x7_2) := ⟨h2_⟩
                        have n3_ : Aside0 (w29.heap[gb176]? = some (.cells #[.slice Ao25 x177000_2.length co25, .int .i64 x177001_2] 24 (0, 0))) := ⟨h3_⟩
                        have n4_ : Aside0 (w29.heap[gb187]? = some (.cells #[.slice none 0 0, .int .i64 0] 24 (0, 0))) := ⟨h4_⟩
                        have n5_ : Aside0 (w.heap.size ≤ gb187) := ⟨h5_⟩
                        have n6_ : Aside0 (w.heap.size ≤ gb187) := ⟨h6_⟩
                        have n7_ : Aside0 (gb176 ≠ gb187) := ⟨h7_⟩
                        have n8_ : Aside0 (gb187 ≠ gb176) := ⟨h8_⟩
                        have n9_ : Aside0 (Below w.heap.size w w29) := ⟨h9_⟩
                        clear HO_7
                        clear HO_177000
                        clear BK176
                        clear HB
                        clear h0_ h1_ h2_ h3_ h4_ h5_ h6_ h7_ h8_ h9_
                        have HO184 := n0_
                        have HO_177000 := n1_
                        have HO_7 := n2_
                        have BK176 := n3_
                        have BK187 := n4_
                        have GW187 := n5_
                        have GE187 := n6_
                        have NB176_187 := n7_
                        have NB187_176 := n8_
                        have HB := n9_
                        clear n0_ n1_ n2_ n3_ n4_ n5_ n6_ n7_ n8_ n9_
                        have hHeld : w29.cell? ⟨gb176, 0, none⟩ = some (.slice Ao25 x177000_2.length co25) ∧ w29.cell? ⟨gb176, 1, none⟩ = some (.int .i64 x177001_2) ∧ w29.cell? (ad180.add (x8_2).toNat) = some (.int .i64 (rd l1 x8_2)) := hS_
                        obtain ⟨Ao30, co30, eo30⟩ := Kd.V_slice HO184.out
                        (first | subst eo30 | (injection eo30 with f1_ f2_ f3_; have f4_ := f1_.symm; have f5_ := f3_.symm; clear f1_ f2_ f3_; subst f4_; subst f5_))
                        refine norm_ (a' := ?_) ?_ ?_
                        rotate_left
                        · simp only [putAll, Act.put, List.setIfInBounds_toArray, List.set_cons_zero, List.set_cons_succ]
                          rfl
                        refine one_ (i := 10) (N := none) #[true, true, true, true, true, true, true, true, true, true, true, false] rfl rfl (one_of HT_.out (by kernel_rfl)) (by decide) (fun K hK => ?_)
                        have hs31 : w29.cell? ⟨gb187, 0, none⟩ = some (.slice none 0 0) := (blk_cell BK187.out 0).trans rfl
                        have hfs31 := blk_frozen BK187.out 0
                        have hns31_0 := NB176_187.out
                        have hms31_0 := NB187_176.out
                        have hs32 : w29.cell? ⟨gb187, 1, none⟩ = some (.int .i64 0) := (blk_cell BK187.out 1).trans rfl
                        have hfs32 := blk_frozen BK187.out 1
                        have hns32_0 := NB176_187.out
                        have hms32_0 := NB187_176.out
                        refine skip_ (w1 := ?_) (by rfl) rfl ?_ ?_
                        rotate_left
                        · go_simp
                          rfl
                        refine hK.out _ _ ⟨((cell_far (p := ⟨gb187, _, none⟩) NB176_187.out _).trans (((cell_far (p := ⟨gb187, _, none⟩) NB176_187.out _).trans (hHeld.1)))), ((cell_far (p := ⟨gb187, _, none⟩) NB176_187.out _).trans (((cell_far (p := ⟨gb187, _, none⟩) NB176_187.out _).trans (hHeld.2.1)))), ((cell_far (p := ⟨gb187, _, none⟩) (by first | exact Nat.ne_of_lt (Nat.lt_of_lt_of_le (by have := World.block_lt_of_cell? _ _ hw181_0; first | rwa [add_block] at this | exact this) GW187.out) | (rw [add_block]; exact Nat.ne_of_lt (Nat.lt_of_lt_of_le (by have := World.block_lt_of_cell? _ _ hw181_0; first | rwa [add_block] at this | exact this) GW187.out)) | (show (Addr.add _ _).block ≠ _; rw [add_block]; exact Nat.ne_of_lt (Nat.lt_of_lt_of_le (by have := World.block_lt_of_cell? _ _ hw181_0; first | rwa [add_block] at this | exact this) GW187.out)) | (dsimp only; exact Nat.ne_of_lt (Nat.lt_of_lt_of_le (by have := World.block_lt_of_cell? _ _ hw181_0; first | rwa [add_block] at this | exact this) GW187.out))) _).trans (((cell_far (p := ⟨gb187, _, none⟩) (by first | exact Nat.ne_of_lt (Nat.lt_of_lt_of_le (by have := World.block_lt_of_cell? _ _ hw181_0; first | rwa [add_block] at this | exact this) GW187.out) | (rw [add_block]; exact Nat.ne_of_lt (Nat.lt_of_lt_of_le (by have := World.block_lt_of_cell? _ _ hw181_0; first | rwa [add_block] at this | exact this) GW187.out)) | (show (Addr.add _ _).block ≠ _; rw [add_block]; exact Nat.ne_of_lt (Nat.lt_of_lt_of_le (by have := World.block_lt_of_cell? _ _ hw181_0; first | rwa [add_block] at this | exact this) GW187.out)) | (dsimp only; exact Nat.ne_of_lt (Nat.lt_of_lt_of_le (by have := World.block_lt_of_cell? _ _ hw181_0; first | rwa [add_block] at this | exact this) GW187.out))) _).trans (hHeld.2.2))))⟩ (fun hHeld => ?_)
                        clear hK K
                        refine pure_ (i := 11) (N := some 10) (v := ?_) (a' := ?_) #[true, true, true, true, true, true, true, true, true, true, true, true] rfl rfl (any_of HT_.out (by kernel_rfl)) (fun _ _ _ h => h) (Or.inl ⟨by rfl, ?_⟩) ?_ ?_
                        rotate_left
                        · intro w'
                          go_simp
                          with_reducible rfl
                        rotate_left
                        · simp only [Act.put, List.setIfInBounds_toArray, List.set_cons_zero, List.set_cons_succ, i64_w, i32_w]
                          rfl
                        refine done_ (done_of HT_.out (by kernel_rfl)) ?_
                        have p188 : 0 ≤ (x8_2 : Int) := of_decide_eq_true (by first | (with_reducible assumption) | assumption)
                        have q188 : x8_2 < (l1.length : Int) := of_decide_eq_true (by first | (with_reducible assumption) | assumption)
                        obtain ⟨ad188, e188, hx188_0⟩ := Kd.at_int HR1.out x8_2 p188 q188
                        obtain rfl : ad180 = ad188 := (by injection e188)
                        have hn188_0 : ad180.block ≠ gb187 := Nat.ne_of_lt (Nat.lt_of_lt_of_le (by have := World.block_lt_of_cell? _ _ hx188_0; first | rwa [add_block] at this | exact this) GW187.out)
                        have hn188_1 : ad180.block ≠ gb187 := Nat.ne_of_lt (Nat.lt_of_lt_of_le (by have := World.block_lt_of_cell? _ _ hx188_0; first | rwa [add_block] at this | exact this) GW187.out)
                        replace hx188_0 := (HB.out.cell (World.block_lt_of_cell? w _ hx188_0)).trans hx188_0
                        replace hx188_0 := (cell_far (p := ⟨gb187, 0, none⟩) (by first | (rw [add_block]; exact hn188_0) | (show (Addr.add _ _).block ≠ _; rw [add_block]; exact hn188_0) | exact hn188_0) (.slice Ao30 t182.length co30)).trans hx188_0
                        replace hx188_0 := (cell_far (p := ⟨gb187, 1, none⟩) (by first | (rw [add_block]; exact hn188_1) | (show (Addr.add _ _).block ≠ _; rw [add_block]; exact hn188_1) | exact hn188_1) (.int .i64 t185)).trans hx188_0
                        clear hn188_0
                        clear hn188_1
                        replace p188 := eq_true p188
                        replace q188 := eq_true q188
                        try go_wp2_with (first | ((with_reducible refine gate_builtin (b := .append) (xs := #[.tmp 51, .tmp 56]) rfl ?_); at_builtin; refine Kd.Q_append (Kd.int .i64) (w0 := w) w.heap.size rfl (.tmp 51) (.tmp 56) 22 3 (.int .i64 0) 8 rfl Try.underlying22 info3 rfl (by decide) (by omega) u7 x7_2 (rd l1 x8_2) [.int .i64 (rd l1 x8_2)] (fun _ => True) (fun _ => False) rfl (by first | (go_simp; done) | (go_simp; rfl)) ?aP (fun _ hk => hk.elim) ?aF ?aO ?aB ?aS ?aL ?_; (case aP => exact rfl); (case aB => exact (by repeat (first | (with_reducible first | exact HB.out | apply below_alloc | apply pw_below_drewN | apply below_drew1 | refine below_set ?_ GE176.out | refine below_set ?_ GE187.out) | exact HB.out))); (case aF => exact (fun _ _ => trivial)); (case aO => exact (by (with_reducible repeat (first | apply Kd.Q_alloc | apply Kd.Q_drewN | apply Kd.Q_drew)); exact Kd.Q_mono (Kd.Q_far (p := ⟨gb187, 1, none⟩) (Kd.Q_far (p := ⟨gb187, 0, none⟩) (Kd.Q_types HO_7.out BK187.out (by decide)) (fun _ hk => hk.2) (.slice Ao30 t182.length co30)) (fun _ hk => hk.2) (.int .i64 t185)) (fun _ hk => trivial))); (case aS => exact (below_size (by repeat (first | (with_reducible first | exact HB.out | apply below_alloc | apply pw_below_drewN | apply below_drew1 | refine below_set ?_ GE176.out | refine below_set ?_ GE187.out) | exact HB.out)))); (case aL => have := LMc22.out; omega); intro v190 w33 ho hb hg hat; rw [← Ny189.out] at ho; have n0_ := Aside0.mk (Kd.V_afterv (ok := (fun k_ => k_ ≠ gb176 ∧ k_ ≠ gb187)) (by (with_reducible repeat (first | apply Kd.V_alloc | apply Kd.V_drewN | apply Kd.V_drew)); exact Kd.V_mono (Kd.V_far (p := ⟨gb187, 1, none⟩) (Kd.V_far (p := ⟨gb187, 0, none⟩) (Kd.V_mono HO_177000.out (fun k_ hk => (⟨hk, hk.2.2⟩ : _ ∧ k_ ≠ gb187))) (fun _ hk => hk.2) (.slice Ao30 t182.length co30)) (fun _ hk => hk.2) (.int .i64 t185)) (fun _ hk => ⟨⟨hk.1.2.1, hk.1.2.2⟩, hk.1.1⟩)) hg hat); have n1_ := Aside0.mk (blk_grown (g := gb176) (o := .cells #[.slice Ao25 x177000_2.length co25, .int .i64 x177001_2] 24 (0, 0)) (by (with_reducible repeat (first | refine blk_drewN ?_ _ | refine blk_drew ?_ | refine blk_alloc ?_ _)); refine blk_far ?_ NB176_187.out _; (with_reducible repeat (first | refine blk_drewN ?_ _ | refine blk_drew ?_ | refine blk_alloc ?_ _)); refine blk_far ?_ NB176_187.out _; (with_reducible repeat (first | refine blk_drewN ?_ _ | refine blk_drew ?_ | refine blk_alloc ?_ _)); exact BK176.out) hg (Kd.Q_ne HO_7.out BK176.out (by decide))); have n2_ := Aside0.mk (Kd.V_afterv (ok := (fun k_ => k_ ≠ gb176 ∧ k_ ≠ gb187)) (by (with_reducible repeat (first | apply Kd.V_alloc | apply Kd.V_drewN | apply Kd.V_drew)); exact Kd.V_mono (Kd.V_far (p := ⟨gb187, 1, none⟩) (Kd.V_far (p := ⟨gb187, 0, none⟩) (Kd.V_mono HO184.out (fun k_ hk => (⟨hk, hk.2.2⟩ : _ ∧ k_ ≠ gb187))) (fun _ hk => hk.2) (.slice Ao30 t182.length co30)) (fun _ hk => hk.2) (.int .i64 t185)) (fun _ hk => ⟨⟨hk.1.2.1, hk.1.2.2⟩, hk.1.1⟩)) hg hat); have n3_ := Aside0.mk (blk_grown (g := gb187) (o := .cells #[.slice Ao30 t182.length co30, .int .i64 t185] 24 (0, 0)) (by (with_reducible repeat (first | refine blk_drewN ?_ _ | refine blk_drew ?_ | refine blk_alloc ?_ _)); refine blk_put (cs := #[.slice Ao30 t182.length co30, .int .i64 0]) ?_ 1 _ rfl; (with_reducible repeat (first | refine blk_drewN ?_ _ | refine blk_drew ?_ | refine blk_alloc ?_ _)); refine blk_put (cs := #[.slice none 0 0, .int .i64 0]) ?_ 0 _ rfl; (with_reducible repeat (first | refine blk_drewN ?_ _ | refine blk_drew ?_ | refine blk_alloc ?_ _)); exact BK187.out) hg (Kd.Q_ne HO_7.out BK187.out (by decide))); have n4_ := Aside0.mk (hb); have n5_ := Aside0.mk (ho); clear HO_177000; clear BK176; clear HO184; clear BK187; clear HB; clear HO_7; have HO_177000 := n0_; have BK176 := n1_; have HO184 := n2_; have BK187 := n3_; have HB := n4_; have HO191 := n5_; clear n0_ n1_ n2_ n3_ n4_ n5_; clear ho hb hg hat; have hnb34 := NB187_176.out; have hnc34 := NB176_187.out; have hcz35_0 : w33.cell? ⟨gb187, 0, none⟩ = some (.slice Ao30 t182.length co30) := (blk_cell BK187.out 0).trans rfl; have hcz35_1 : w33.cell? ⟨gb187, 1, none⟩ = some (.int .i64 t185) := (blk_cell BK187.out 1).trans rfl; have hfz35_0 := blk_frozen BK187.out 0; have hfz35_1 := blk_frozen BK187.out 1; have hcz36_0 : w33.cell? ⟨gb176, 0, none⟩ = some (.slice Ao25 x177000_2.length co25) := (blk_cell BK176.out 0).trans rfl; have hcz36_1 : w33.cell? ⟨gb176, 1, none⟩ = some (.int .i64 x177001_2) := (blk_cell BK176.out 1).trans rfl; have hfz36_0 := blk_frozen BK176.out 0; have hfz36_1 := blk_frozen BK176.out 1) | ((with_reducible refine gate_callee (f := 19) rfl ?_); refine goesL_ (some 88) rfl rfl Try.func19 (by kernel_rfl) rfl #[.agg #[.slice Ao30 t182.length co30, .int .i64 t185]] rfl (by (try simp only [List.map_toArray, List.map_cons, List.map_nil]); first | done | rfl | (simp only [List.length_drop, List.length_take]; rfl)) ?_; (with_reducible refine (queue_Len_int.calls _ _ t182 t185 t192 _ ?side1 ?side2 A23.out).mono ?_); (case side1 => refine (Kd.V_reads' (e := 3) (base := w.heap.size) (ok := fun k_ => ((k_ ≠ gb176 ∧ k_ ≠ gb187) ∧ some k_ ≠ (v190 : Value).ownBlock)) (n := t182.length) (c := co30) ?_).2.2; exact (by (with_reducible repeat (first | apply Kd.V_alloc | apply Kd.V_drewN | apply Kd.V_drew)); exact (Kd.V_mono (Kd.V_far (p := ⟨gb176, 1, none⟩) (Kd.V_far (p := ⟨gb176, 0, none⟩) (Kd.V_mono HO184.out (fun k_ hk => (⟨hk, hk.1.1⟩ : _ ∧ k_ ≠ gb176))) (fun _ hk => hk.2) (.slice Ao30 t182.length co30)) (fun _ hk => hk.2) (.int .i64 t185)) (fun _ h_ => h_.1)))); (case side2 => exact (Kd.V_reads' HO184.out).2.1); rintro e w37 ⟨rfl, hb⟩; refine ⟨_, rfl, ?_⟩; have n0_ := Aside0.mk (Kd.V_below (by (with_reducible repeat (first | apply Kd.V_alloc | apply Kd.V_drewN | apply Kd.V_drew)); exact (Kd.V_mono (Kd.V_far (p := ⟨gb176, 1, none⟩) (Kd.V_far (p := ⟨gb176, 0, none⟩) (Kd.V_mono HO_177000.out (fun k_ hk => (⟨hk, hk.1.1⟩ : _ ∧ k_ ≠ gb176))) (fun _ hk => hk.2) (.slice Ao30 t182.length co30)) (fun _ hk => hk.2) (.int .i64 t185)) (fun _ h_ => h_.1))) hb); have n1_ := Aside0.mk (Kd.V_below (by (with_reducible repeat (first | apply Kd.V_alloc | apply Kd.V_drewN | apply Kd.V_drew)); exact (Kd.V_mono (Kd.V_far (p := ⟨gb176, 1, none⟩) (Kd.V_far (p := ⟨gb176, 0, none⟩) (Kd.V_mono HO184.out (fun k_ hk => (⟨hk, hk.1.1⟩ : _ ∧ k_ ≠ gb176))) (fun _ hk => hk.2) (.slice Ao30 t182.length co30)) (fun _ hk => hk.2) (.int .i64 t185)) (fun _ h_ => h_.1))) hb); have n2_ := Aside0.mk (Kd.Q_below (by (with_reducible repeat (first | apply Kd.Q_alloc | apply Kd.Q_drewN | apply Kd.Q_drew)); exact (Kd.Q_mono (Kd.Q_far (p := ⟨gb176, 1, none⟩) (Kd.Q_far (p := ⟨gb176, 0, none⟩) (Kd.Q_types HO191.out BK176.out (by decide)) (fun _ hk => hk.2) (.slice Ao30 t182.length co30)) (fun _ hk => hk.2) (.int .i64 t185)) (fun _ h_ => h_.1))) hb); have n3_ := Aside0.mk (blk_below (g := gb176) (o := .cells #[.slice Ao30 t182.length co30, .int .i64 t185] 24 (0, 0)) (by (with_reducible repeat (first | refine blk_drewN ?_ _ | refine blk_drew ?_ | refine blk_alloc ?_ _)); refine blk_put (cs := #[.slice Ao30 t182.length co30, .int .i64 x177001_2]) ?_ 1 _ rfl; (with_reducible repeat (first | refine blk_drewN ?_ _ | refine blk_drew ?_ | refine blk_alloc ?_ _)); refine blk_put (cs := #[.slice Ao25 x177000_2.length co25, .int .i64 x177001_2]) ?_ 0 _ rfl; (with_reducible repeat (first | refine blk_drewN ?_ _ | refine blk_drew ?_ | refine blk_alloc ?_ _)); exact BK176.out) hb); have n4_ := Aside0.mk (blk_below (g := gb187) (o := .cells #[.slice Ao30 t182.length co30, .int .i64 t185] 24 (0, 0)) (by (with_reducible repeat (first | refine blk_drewN ?_ _ | refine blk_drew ?_ | refine blk_alloc ?_ _)); refine blk_far ?_ NB187_176.out _; (with_reducible repeat (first | refine blk_drewN ?_ _ | refine blk_drew ?_ | refine blk_alloc ?_ _)); refine blk_far ?_ NB187_176.out _; (with_reducible repeat (first | refine blk_drewN ?_ _ | refine blk_drew ?_ | refine blk_alloc ?_ _)); exact BK187.out) hb); have n5_ := Aside0.mk (below_step (by repeat (first | (with_reducible first | exact HB.out | apply below_alloc | apply pw_below_drewN | apply below_drew1 | refine below_set ?_ GE176.out | refine below_set ?_ GE187.out) | exact HB.out)) hb); clear HO_177000; clear HO184; clear HO191; clear BK176; clear BK187; clear HB; have HO_177000 := n0_; have HO184 := n1_; have HO191 := n2_; have BK176 := n3_; have BK187 := n4_; have HB := n5_; clear n0_ n1_ n2_ n3_ n4_ n5_; (try clear hb); (try clear hb2); (try clear hk); (try clear hi); obtain ⟨Ao38, co38, eo38, _⟩ := Kd.Q_slice HO191.out; subst eo38))
                        go_roundg k2
                        case measure => have := HJ2.out; have := HK2.out; omega
                        case rel => exact ⟨(y189), (wrap64 (x8_2 + 1)), (t182), (t185), (.slice Ao30 t182.length co30), (by first | rfl | (simp; done) | (simp [*]; done)), H', ⟨by have := HJ2.out; have := HK2.out; omega⟩, ⟨by (with_reducible repeat (first | apply Kd.Q_alloc | apply Kd.Q_drewN | apply Kd.Q_drew)); exact HO191.out⟩, ⟨by (with_reducible repeat (first | apply Kd.V_alloc | apply Kd.V_drewN | apply Kd.V_drew)); exact Kd.V_mono HO184.out (fun _ hk => ⟨hk.2, hk.1.1⟩)⟩, ⟨by (with_reducible repeat (first | refine blk_drewN ?_ _ | refine blk_drew ?_ | refine blk_alloc ?_ _)); exact BK176.out⟩, ⟨by repeat (first | (with_reducible first | exact HB.out | apply below_alloc | apply pw_below_drewN | apply below_drew1 | refine below_set ?_ GE176.out | refine below_set ?_ GE187.out) | exact HB.out)⟩⟩
                      · rw [if_neg c24] at H
                        exact absurd H (by simp)
                    · rw [if_neg c22] at H
                      exact absurd H (by simp)
                  · rw [if_neg c21] at H
                    have c21b0 : (t186 == 0) = false := beq_eq_false_iff_ne.mpr c21
                    have c21b1 : (t186 != 0) = true := bne_iff_ne.mpr c21
                    replace H := Option.bind_eq_some_iff.mp H
                    obtain ⟨t193, A390, H⟩ := H
                    replace H : (if t193 = (x7_2.length : Int) then (mortmainlaw02_QueueTurns.l0 k2 l1 x7_2 (wrap64 (x8_2 + 1)) t182 t185) else (none)) = some r := H
                    have A39 := Aside0.mk A390
                    clear A390
                    by_cases c40 : t193 = (x7_2.length : Int)
                    · rw [if_pos c40] at H
                      have c40b0 : (t193 == (x7_2.length : Int)) = true := beq_iff_eq.mpr c40
                      have c40b1 : (t193 != (x7_2.length : Int)) = false := bne_eq_false_iff_eq.mpr c40
                      clear c40
                      have H' := Aside0.mk H
                      clear H
                      have p180 : 0 ≤ (x8_2 : Int) := of_decide_eq_true (by first | (with_reducible assumption) | assumption)
                      have q180 : x8_2 < (l1.length : Int) := of_decide_eq_true (by first | (with_reducible assumption) | assumption)
                      obtain ⟨ad180, e180, hx180_0⟩ := Kd.at_int HR1.out x8_2 p180 q180
                      cases e180
                      replace hx180_0 := (HB.out.cell (World.block_lt_of_cell? w _ hx180_0)).trans hx180_0
                      replace p180 := eq_true p180
                      replace q180 := eq_true q180
                      obtain ⟨Ao41, co41, eo41⟩ := Kd.V_slice HO_177000.out
                      subst eo41
                      try go_wp2
                      have n0_ := Aside0.mk (Kd.Q_drew HO_7.out)
                      have n1_ := Aside0.mk (Kd.V_drew HO_177000.out)
                      have n2_ := Aside0.mk (blk_drew BK176.out)
                      have n3_ := Aside0.mk (below_drew1 HB.out)
                      clear HO_7
                      clear HO_177000
                      clear BK176
                      clear HB
                      have HO_7 := n0_
                      have HO_177000 := n1_
                      have BK176 := n2_
                      have HB := n3_
                      clear n0_ n1_ n2_ n3_
                      have p181 : 0 ≤ (x8_2 : Int) := of_decide_eq_true (by first | (with_reducible assumption) | assumption)
                      have q181 : x8_2 < (l1.length : Int) := of_decide_eq_true (by first | (with_reducible assumption) | assumption)
                      obtain ⟨ad181, e181, hx181_0⟩ := Kd.at_int HR1.out x8_2 p181 q181
                      have hw181_0 := hx181_0
                      obtain rfl : ad180 = ad181 := (by injection e181)
                      replace hx181_0 := (HB.out.cell (World.block_lt_of_cell? w _ hx181_0)).trans hx181_0
                      replace p181 := eq_true p181
                      replace q181 := eq_true q181
                      refine start_ (n := 12) (S := fun w' => w'.cell? ⟨gb176, 0, none⟩ = some (.slice Ao41 x177000_2.length co41) ∧ w'.cell? ⟨gb176, 1, none⟩ = some (.int .i64 x177001_2) ∧ w'.cell? (ad180.add (x8_2).toNat) = some (.int .i64 (rd l1 x8_2))) (ds := []) #[false, false, false, false, false, false, false, false, false, false, false, false] (by kernel_rfl) rfl rfl ⟨(blk_cell BK176.out 0).trans rfl, (blk_cell BK176.out 1).trans rfl, ((HB.out.cell (World.block_lt_of_cell? w _ hw181_0)).trans hw181_0)⟩ (fun hHeld => ?_); refine with_tabW mortmainlaw02_QueueTurns.tab10 mortmainlaw02_QueueTurns.bits10 (fun HT_ HW_ => ?_)
                      generalize wr.drew = w42 at HO_7 HO_177000 BK176 HB hx181_0 hHeld ⊢
                      refine pure_ (i := 1) (N := some 42) (v := ?_) (a' := ?_) #[false, true, false, false, false, false, false, false, false, false, false, false] rfl rfl (any_of HT_.out (by kernel_rfl)) (fun _ _ _ h => h) (Or.inl ⟨by rfl, ?_⟩) ?_ ?_
                      rotate_left
                      · intro w'
                        go_simp
                        with_reducible rfl
                      rotate_left
                      · simp only [Act.put, List.setIfInBounds_toArray, List.set_cons_zero, List.set_cons_succ, i64_w, i32_w]
                        rfl
                      refine pure_ (i := 2) (N := some 43) (v := ?_) (a' := ?_) #[false, true, true, false, false, false, false, false, false, false, false, false] rfl rfl (any_of HT_.out (by kernel_rfl)) (fun _ _ _ h => h) (Or.inl ⟨by rfl, ?_⟩) ?_ ?_
                      rotate_left
                      · intro w'
                        go_simp
                        with_reducible rfl
                      rotate_left
                      · simp only [Act.put, List.setIfInBounds_toArray, List.set_cons_zero, List.set_cons_succ, i64_w, i32_w]
                        rfl
                      refine pure_ (i := 3) (N := some 44) (v := ?_) (a' := ?_) #[false, true, true, true, false, false, false, false, false, false, false, false] rfl rfl (any_of HT_.out (by kernel_rfl)) (fun _ _ _ h => h) (Or.inl ⟨by rfl, ?_⟩) ?_ ?_
                      rotate_left
                      · intro w'
                        go_simp
                        with_reducible rfl
                      rotate_left
                      · simp only [Act.put, List.setIfInBounds_toArray, List.set_cons_zero, List.set_cons_succ, i64_w, i32_w]
                        rfl
                      refine take_ (i := 0) (N := some 41) (v := ?_) (a' := ?_) #[true, true, true, true, false, false, false, false, false, false, false, false] rfl rfl (take_ofW HT_.out HW_.out (by kernel_rfl)) (fun _ _ _ h => h) (Or.inl ⟨by rfl, ?_⟩) hHeld ?_ ?_
                      rotate_left
                      · rintro w' ⟨s0, s1, s2⟩
                        try simp only [Int.toNat_natCast] at s0 s1 s2
                        go_simp
                        with_reducible rfl
                      rotate_left
                      · simp only [Act.put, List.setIfInBounds_toArray, List.set_cons_zero, List.set_cons_succ, i64_w, i32_w]
                        rfl
                      refine take_ (i := 4) (N := some 45) (v := ?_) (a' := ?_) #[true, true, true, true, true, false, false, false, false, false, false, false] rfl rfl (take_ofW HT_.out HW_.out (by kernel_rfl)) (fun _ _ _ h => h) (Or.inl ⟨by rfl, ?_⟩) hHeld ?_ ?_
                      rotate_left
                      · rintro w' ⟨s0, s1, s2⟩
                        try simp only [Int.toNat_natCast] at s0 s1 s2
                        go_simp
                        with_reducible rfl
                      rotate_left
                      · simp only [Act.put, List.setIfInBounds_toArray, List.set_cons_zero, List.set_cons_succ, i64_w, i32_w]
                        rfl
                      refine join_ (σ := Value × Nat) 2 #[true, true, true, true, true, true, true, true, true, true, false, false] (fun s_ => [(46, .tuple #[.agg #[s_.1, .int .i64 t185], .int .i64 t186]), (9, .pointer (some ⟨s_.2, 0, none⟩)), (40, .tuple #[.agg #[s_.1, .int .i64 t185], .int .i64 t186]), (47, .agg #[s_.1, .int .i64 t185]), (48, .int .i64 t186)]) (fun s_ w' => (w'.cell? ⟨gb176, 0, none⟩ = some (.slice Ao41 x177000_2.length co41) ∧ w'.cell? ⟨gb176, 1, none⟩ = some (.int .i64 x177001_2) ∧ w'.cell? (ad180.add (x8_2).toNat) = some (.int .i64 (rd l1 x8_2))) ∧ (Kd.V (Kd.int .i64) 3 w' w.heap.size (fun k_ => some k_ ≠ (u7 : Value).ownBlock ∧ k_ ≠ gb176 ∧ k_ ≠ s_.2) s_.1 t182) ∧ (Kd.V (Kd.int .i64) 3 w' w.heap.size (fun k_ => some k_ ≠ (u7 : Value).ownBlock ∧ k_ ≠ gb176 ∧ k_ ≠ s_.2) (.slice Ao41 x177000_2.length co41) x177000_2) ∧ (Kd.Q (Kd.int .i64) 3 w' w.heap.size (fun _ => True) u7 x7_2) ∧ (w'.heap[gb176]? = some (.cells #[.slice Ao41 x177000_2.length co41, .int .i64 x177001_2] 24 (0, 0))) ∧ (w'.heap[s_.2]? = some (.cells #[.slice none 0 0, .int .i64 0] 24 (0, 0))) ∧ (w.heap.size ≤ s_.2) ∧ (w.heap.size ≤ s_.2) ∧ (gb176 ≠ s_.2) ∧ (s_.2 ≠ gb176) ∧ (Below w.heap.size w w')) ?_ ?_
                      rotate_left
                      · intro hCont
                        refine two_ (i := 5) (j := 9) (Ni := some 46) (Nj := some 9) #[true, true, true, true, true, true, false, false, false, false, false, false] #[true, true, true, true, true, false, false, false, false, true, false, false] rfl rfl rfl rfl (two_of HT_.out (by kernel_rfl)) (by decide) (by decide) (fun K hK => ?_) (fun K hK => ?_)
                        · skip
                          refine goes_ Try.func10 (by kernel_rfl) rfl #[.agg #[.slice Ao41 x177000_2.length co41, .int .i64 x177001_2], .int .i64 (rd l1 x8_2)] (by rfl) rfl rfl (by (try simp only [List.map_toArray, List.map_cons, List.map_nil]); first | done | rfl | (simp only [List.length_drop, List.length_take]; rfl)) ?_
                          with_reducible refine (queue_Push_int.calls (fun k_ => (some k_ ≠ (u7 : Value).ownBlock ∧ k_ ≠ gb176)) _ _ x177000_2 x177001_2 (rd l1 x8_2) t182 t185 t186 _ ?side1 A20.out).mono ?_
                          (case side1 => exact HO_177000.out)
                          rintro e w43 ⟨v183, rfl, ho0, hb⟩
                          refine ⟨_, rfl, ?_⟩
                          have n0_ := Aside0.mk (Kd.Q_below (by (with_reducible repeat (first | apply Kd.Q_alloc | apply Kd.Q_drewN | apply Kd.Q_drew)); exact HO_7.out) hb)
                          have n1_ := Aside0.mk (Kd.V_below (by (with_reducible repeat (first | apply Kd.V_alloc | apply Kd.V_drewN | apply Kd.V_drew)); exact HO_177000.out) hb)
                          have n2_ := Aside0.mk (Kd.V_lower (Kd.V_mono (ok' := fun k_ => some k_ ≠ (u7 : Value).ownBlock ∧ k_ ≠ gb176) ho0 (fun k_ hk_ => ⟨Or.elim hk_ (fun hs_ => hs_.1) (fun hn_ => (Kd.fresh' (Kd.Q_lt (by (with_reducible repeat (first | apply Kd.Q_alloc | apply Kd.Q_drewN | apply Kd.Q_drew)); exact HO_7.out)) k_ hn_)), Or.elim hk_ (fun hs_ => hs_.2) (fun hn_ => (Kd.freshB (g := gb176) (o := .cells #[.slice Ao41 x177000_2.length co41, .int .i64 x177001_2] 24 (0, 0)) (by (with_reducible repeat (first | refine blk_drewN ?_ _ | refine blk_drew ?_ | refine blk_alloc ?_ _)); exact BK176.out) k_ hn_))⟩)) (below_size (by repeat (first | (with_reducible first | exact HB.out | apply below_alloc | apply pw_below_drewN | apply below_drew1 | refine below_set ?_ GE176.out) | exact HB.out))))
                          have n3_ := Aside0.mk (blk_below (g := gb176) (o := .cells #[.slice Ao41 x177000_2.length co41, .int .i64 x177001_2] 24 (0, 0)) (by (with_reducible repeat (first | refine blk_drewN ?_ _ | refine blk_drew ?_ | refine blk_alloc ?_ _)); exact BK176.out) hb)
                          have n4_ := Aside0.mk (below_step (by repeat (first | (with_reducible first | exact HB.out | apply below_alloc | apply pw_below_drewN | apply below_drew1 | refine below_set ?_ GE176.out) | exact HB.out)) hb)
                          clear HO_7
                          clear HO_177000
                          clear BK176
                          clear HB
                          have HO_7 := n0_
                          have HO_177000 := n1_
                          have HO184 := n2_
                          have BK176 := n3_
                          have HB := n4_
                          clear n0_ n1_ n2_ n3_ n4_
                          (try clear hb)
                          (try clear hb2)
                          (try clear hk)
                          (try clear hi)
                          (try clear ho0)
                          refine hK.out _ _ ⟨(blk_cell BK176.out 0).trans rfl, (blk_cell BK176.out 1).trans rfl, ((HB.out.cell (World.block_lt_of_cell? w _ hw181_0)).trans hw181_0)⟩ (fun hHeld => ?_)
                          clear hK K
                          refine norm_ (a' := ?_) ?_ ?_
                          rotate_left
                          · show Act.put _ (some 46) _ = _
                            simp only [Act.put, List.setIfInBounds_toArray, List.set_cons_zero, List.set_cons_succ, i64_w, i32_w]
                            rfl
                          refine pure_ (i := 6) (N := some 40) (v := ?_) (a' := ?_) #[true, true, true, true, true, true, true, false, false, false, false, false] rfl rfl (any_of HT_.out (by kernel_rfl)) (fun _ _ _ h => h) (Or.inl ⟨by rfl, ?_⟩) ?_ ?_
                          rotate_left
                          · intro w'
                            go_simp
                            with_reducible rfl
                          rotate_left
                          · simp only [Act.put, List.setIfInBounds_toArray, List.set_cons_zero, List.set_cons_succ, i64_w, i32_w]
                            rfl
                          refine pure_ (i := 7) (N := some 47) (v := ?_) (a' := ?_) #[true, true, true, true, true, true, true, true, false, false, false, false] rfl rfl (any_of HT_.out (by kernel_rfl)) (fun _ _ _ h => h) (Or.inl ⟨by rfl, ?_⟩) ?_ ?_
                          rotate_left
                          · intro w'
                            go_simp
                            with_reducible rfl
                          rotate_left
                          · simp only [Act.put, List.setIfInBounds_toArray, List.set_cons_zero, List.set_cons_succ, i64_w, i32_w]
                            rfl
                          refine pure_ (i := 8) (N := some 48) (v := ?_) (a' := ?_) #[true, true, true, true, true, true, true, true, true, false, false, false] rfl rfl (any_of HT_.out (by kernel_rfl)) (fun _ _ _ h => h) (Or.inl ⟨by rfl, ?_⟩) ?_ ?_
                          rotate_left
                          · intro w'
                            go_simp
                            with_reducible rfl
                          rotate_left
                          · simp only [Act.put, List.setIfInBounds_toArray, List.set_cons_zero, List.set_cons_succ, i64_w, i32_w]
                            rfl
                          refine one_ (i := 9) (N := some 9) #[true, true, true, true, true, true, true, true, true, true, false, false] rfl rfl (one_of HT_.out (by kernel_rfl)) (by decide) (fun K hK => ?_)
                          refine box_step ?hg (N := 9) ?hd (cs := #[.slice none 0 0, .int .i64 0]) (t := 24) ?hr ?_; (case hd => rfl); (case hg => rfl); (case hr => first | (go_simp; done) | (go_simp; rfl))
                          intro gb187 hg w44 hbox hb
                          have n0_ := Aside0.mk (Kd.Q_below (by (with_reducible repeat (first | apply Kd.Q_alloc | apply Kd.Q_drewN | apply Kd.Q_drew)); exact HO_7.out) hb)
                          have n1_ := Aside0.mk (Kd.V_below (Kd.V_elderB (by (with_reducible repeat (first | apply Kd.V_alloc | apply Kd.V_drewN | apply Kd.V_drew)); exact HO_177000.out) gb187 (Nat.le_of_eq hg.symm)) hb)
                          have n2_ := Aside0.mk (Kd.V_below (Kd.V_elderB (by (with_reducible repeat (first | apply Kd.V_alloc | apply Kd.V_drewN | apply Kd.V_drew)); exact HO184.out) gb187 (Nat.le_of_eq hg.symm)) hb)
                          have n3_ := Aside0.mk (blk_below (g := gb176) (o := .cells #[.slice Ao41 x177000_2.length co41, .int .i64 x177001_2] 24 (0, 0)) (by (with_reducible repeat (first | refine blk_drewN ?_ _ | refine blk_drew ?_ | refine blk_alloc ?_ _)); exact BK176.out) hb)
                          have n4_ := Aside0.mk (below_step (by repeat (first | (with_reducible first | exact HB.out | apply below_alloc | apply pw_below_drewN | apply below_drew1 | refine below_set ?_ GE176.out) | exact HB.out)) hb)
                          have n5_ := Aside0.mk (hbox)
                          have n6_ := Aside0.mk ((by rw [hg]; exact (below_size (by repeat (first | (with_reducible first | exact HB.out | apply below_alloc | apply pw_below_drewN | apply below_drew1 | refine below_set ?_ GE176.out) | exact HB.out))) : w.heap.size ≤ gb187))
                          have n7_ := Aside0.mk ((by rw [hg]; exact (below_size (by repeat (first | (with_reducible first | exact HB.out | apply below_alloc | apply pw_below_drewN | apply below_drew1 | refine below_set ?_ GE176.out) | exact HB.out))) : w.heap.size ≤ gb187))
                          have n8_ := Aside0.mk ((by rw [hg]; exact Nat.ne_of_lt (blk_lt (g := gb176) (o := .cells #[.slice Ao41 x177000_2.length co41, .int .i64 x177001_2] 24 (0, 0)) (by (with_reducible repeat (first | refine blk_drewN ?_ _ | refine blk_drew ?_ | refine blk_alloc ?_ _)); exact BK176.out)) : gb176 ≠ gb187))
                          have n9_ := Aside0.mk ((by rw [hg]; exact Nat.ne_of_gt (blk_lt (g := gb176) (o := .cells #[.slice Ao41 x177000_2.length co41, .int .i64 x177001_2] 24 (0, 0)) (by (with_reducible repeat (first | refine blk_drewN ?_ _ | refine blk_drew ?_ | refine blk_alloc ?_ _)); exact BK176.out)) : gb187 ≠ gb176))
                          clear HO_7
                          clear HO_177000
                          clear HO184
                          clear BK176
                          clear HB
                          have HO_7 := n0_
                          have HO_177000 := n1_
                          have HO184 := n2_
                          have BK176 := n3_
                          have HB := n4_
                          have BK187 := n5_
                          have GW187 := n6_
                          have GE187 := n7_
                          have NB176_187 := n8_
                          have NB187_176 := n9_
                          clear n0_ n1_ n2_ n3_ n4_ n5_ n6_ n7_ n8_ n9_
                          clear hb hbox hg
                          refine hK.out _ _ ⟨(blk_cell BK176.out 0).trans rfl, (blk_cell BK176.out 1).trans rfl, ((HB.out.cell (World.block_lt_of_cell? w _ hw181_0)).trans hw181_0)⟩ (fun hHeld => ?_)
                          clear hK K
                          refine norm_ (a' := ?_) ?_ ?_
                          rotate_left
                          · show Act.put _ (some 9) _ = _
                            simp only [Act.put, List.setIfInBounds_toArray, List.set_cons_zero, List.set_cons_succ, i64_w, i32_w]
                            rfl
                          exact norm_ (by simp only [putAll, Act.put, List.setIfInBounds_toArray, List.set_cons_zero, List.set_cons_succ]) (hCont (v183, gb187) _ ⟨hHeld, (by (with_reducible repeat (first | apply Kd.V_alloc | apply Kd.V_drewN | apply Kd.V_drew)); exact Kd.V_mono HO184.out (fun _ hk => ⟨hk.1.1, ⟨hk.1.2, hk.2⟩⟩)), (by (with_reducible repeat (first | apply Kd.V_alloc | apply Kd.V_drewN | apply Kd.V_drew)); exact Kd.V_mono HO_177000.out (fun _ hk => ⟨hk.1.1, ⟨hk.1.2, hk.2⟩⟩)), (by (with_reducible repeat (first | apply Kd.Q_alloc | apply Kd.Q_drewN | apply Kd.Q_drew)); exact HO_7.out), (by (with_reducible repeat (first | refine blk_drewN ?_ _ | refine blk_drew ?_ | refine blk_alloc ?_ _)); exact BK176.out), (by (with_reducible repeat (first | refine blk_drewN ?_ _ | refine blk_drew ?_ | refine blk_alloc ?_ _)); exact BK187.out), GW187.out, GE187.out, NB176_187.out, NB187_176.out, (by repeat (first | (with_reducible first | exact HB.out | apply below_alloc | apply pw_below_drewN | apply below_drew1 | refine below_set ?_ GE176.out | refine below_set ?_ GE187.out) | exact HB.out))⟩)
                        · skip
                          refine box_step ?hg (N := 9) ?hd (cs := #[.slice none 0 0, .int .i64 0]) (t := 24) ?hr ?_; (case hd => rfl); (case hg => rfl); (case hr => first | (go_simp; done) | (go_simp; rfl))
                          intro gb187 hg w43 hbox hb
                          have n0_ := Aside0.mk (Kd.Q_below (by (with_reducible repeat (first | apply Kd.Q_alloc | apply Kd.Q_drewN | apply Kd.Q_drew)); exact HO_7.out) hb)
                          have n1_ := Aside0.mk (Kd.V_below (Kd.V_elderB (by (with_reducible repeat (first | apply Kd.V_alloc | apply Kd.V_drewN | apply Kd.V_drew)); exact HO_177000.out) gb187 (Nat.le_of_eq hg.symm)) hb)
                          have n2_ := Aside0.mk (blk_below (g := gb176) (o := .cells #[.slice Ao41 x177000_2.length co41, .int .i64 x177001_2] 24 (0, 0)) (by (with_reducible repeat (first | refine blk_drewN ?_ _ | refine blk_drew ?_ | refine blk_alloc ?_ _)); exact BK176.out) hb)
                          have n3_ := Aside0.mk (below_step (by repeat (first | (with_reducible first | exact HB.out | apply below_alloc | apply pw_below_drewN | apply below_drew1 | refine below_set ?_ GE176.out) | exact HB.out)) hb)
                          have n4_ := Aside0.mk (hbox)
                          have n5_ := Aside0.mk ((by rw [hg]; exact (below_size (by repeat (first | (with_reducible first | exact HB.out | apply below_alloc | apply pw_below_drewN | apply below_drew1 | refine below_set ?_ GE176.out) | exact HB.out))) : w.heap.size ≤ gb187))
                          have n6_ := Aside0.mk ((by rw [hg]; exact (below_size (by repeat (first | (with_reducible first | exact HB.out | apply below_alloc | apply pw_below_drewN | apply below_drew1 | refine below_set ?_ GE176.out) | exact HB.out))) : w.heap.size ≤ gb187))
                          have n7_ := Aside0.mk ((by rw [hg]; exact Nat.ne_of_lt (blk_lt (g := gb176) (o := .cells #[.slice Ao41 x177000_2.length co41, .int .i64 x177001_2] 24 (0, 0)) (by (with_reducible repeat (first | refine blk_drewN ?_ _ | refine blk_drew ?_ | refine blk_alloc ?_ _)); exact BK176.out)) : gb176 ≠ gb187))
                          have n8_ := Aside0.mk ((by rw [hg]; exact Nat.ne_of_gt (blk_lt (g := gb176) (o := .cells #[.slice Ao41 x177000_2.length co41, .int .i64 x177001_2] 24 (0, 0)) (by (with_reducible repeat (first | refine blk_drewN ?_ _ | refine blk_drew ?_ | refine blk_alloc ?_ _)); exact BK176.out)) : gb187 ≠ gb176))
                          clear HO_7
                          clear HO_177000
                          clear BK176
                          clear HB
                          have HO_7 := n0_
                          have HO_177000 := n1_
                          have BK176 := n2_
                          have HB := n3_
                          have BK187 := n4_
                          have GW187 := n5_
                          have GE187 := n6_
                          have NB176_187 := n7_
                          have NB187_176 := n8_
                          clear n0_ n1_ n2_ n3_ n4_ n5_ n6_ n7_ n8_
                          clear hb hbox hg
                          refine hK.out _ _ ⟨(blk_cell BK176.out 0).trans rfl, (blk_cell BK176.out 1).trans rfl, ((HB.out.cell (World.block_lt_of_cell? w _ hw181_0)).trans hw181_0)⟩ (fun hHeld => ?_)
                          clear hK K
                          refine norm_ (a' := ?_) ?_ ?_
                          rotate_left
                          · show Act.put _ (some 9) _ = _
                            simp only [Act.put, List.setIfInBounds_toArray, List.set_cons_zero, List.set_cons_succ, i64_w, i32_w]
                            rfl
                          refine one_ (i := 5) (N := some 46) #[true, true, true, true, true, true, false, false, false, true, false, false] rfl rfl (one_of HT_.out (by kernel_rfl)) (by decide) (fun K hK => ?_)
                          refine goes_ Try.func10 (by kernel_rfl) rfl #[.agg #[.slice Ao41 x177000_2.length co41, .int .i64 x177001_2], .int .i64 (rd l1 x8_2)] (by rfl) rfl rfl (by (try simp only [List.map_toArray, List.map_cons, List.map_nil]); first | done | rfl | (simp only [List.length_drop, List.length_take]; rfl)) ?_
                          with_reducible refine (queue_Push_int.calls (fun k_ => ((some k_ ≠ (u7 : Value).ownBlock ∧ k_ ≠ gb176) ∧ k_ ≠ gb187)) _ _ x177000_2 x177001_2 (rd l1 x8_2) t182 t185 t186 _ ?side1 A20.out).mono ?_
                          (case side1 => exact HO_177000.out)
                          rintro e w44 ⟨v183, rfl, ho0, hb⟩
                          refine ⟨_, rfl, ?_⟩
                          have n0_ := Aside0.mk (Kd.Q_below (by (with_reducible repeat (first | apply Kd.Q_alloc | apply Kd.Q_drewN | apply Kd.Q_drew)); exact HO_7.out) hb)
                          have n1_ := Aside0.mk (Kd.V_below (by (with_reducible repeat (first | apply Kd.V_alloc | apply Kd.V_drewN | apply Kd.V_drew)); exact HO_177000.out) hb)
                          have n2_ := Aside0.mk (Kd.V_lower (Kd.V_mono (ok' := fun k_ => some k_ ≠ (u7 : Value).ownBlock ∧ k_ ≠ gb176 ∧ k_ ≠ gb187) ho0 (fun k_ hk_ => ⟨Or.elim hk_ (fun hs_ => hs_.1.1) (fun hn_ => (Kd.fresh' (Kd.Q_lt (by (with_reducible repeat (first | apply Kd.Q_alloc | apply Kd.Q_drewN | apply Kd.Q_drew)); exact HO_7.out)) k_ hn_)), Or.elim hk_ (fun hs_ => hs_.1.2) (fun hn_ => (Kd.freshB (g := gb176) (o := .cells #[.slice Ao41 x177000_2.length co41, .int .i64 x177001_2] 24 (0, 0)) (by (with_reducible repeat (first | refine blk_drewN ?_ _ | refine blk_drew ?_ | refine blk_alloc ?_ _)); exact BK176.out) k_ hn_)), Or.elim hk_ (fun hs_ => hs_.2) (fun hn_ => (Kd.freshB (g := gb187) (o := .cells #[.slice none 0 0, .int .i64 0] 24 (0, 0)) (by (with_reducible repeat (first | refine blk_drewN ?_ _ | refine blk_drew ?_ | refine blk_alloc ?_ _)); exact BK187.out) k_ hn_))⟩)) (below_size (by repeat (first | (with_reducible first | exact HB.out | apply below_alloc | apply pw_below_drewN | apply below_drew1 | refine below_set ?_ GE176.out | refine below_set ?_ GE187.out) | exact HB.out))))
                          have n3_ := Aside0.mk (blk_below (g := gb176) (o := .cells #[.slice Ao41 x177000_2.length co41, .int .i64 x177001_2] 24 (0, 0)) (by (with_reducible repeat (first | refine blk_drewN ?_ _ | refine blk_drew ?_ | refine blk_alloc ?_ _)); exact BK176.out) hb)
                          have n4_ := Aside0.mk (blk_below (g := gb187) (o := .cells #[.slice none 0 0, .int .i64 0] 24 (0, 0)) (by (with_reducible repeat (first | refine blk_drewN ?_ _ | refine blk_drew ?_ | refine blk_alloc ?_ _)); exact BK187.out) hb)
                          have n5_ := Aside0.mk (below_step (by repeat (first | (with_reducible first | exact HB.out | apply below_alloc | apply pw_below_drewN | apply below_drew1 | refine below_set ?_ GE176.out | refine below_set ?_ GE187.out) | exact HB.out)) hb)
                          clear HO_7
                          clear HO_177000
                          clear BK176
                          clear BK187
                          clear HB
                          have HO_7 := n0_
                          have HO_177000 := n1_
                          have HO184 := n2_
                          have BK176 := n3_
                          have BK187 := n4_
                          have HB := n5_
                          clear n0_ n1_ n2_ n3_ n4_ n5_
                          (try clear hb)
                          (try clear hb2)
                          (try clear hk)
                          (try clear hi)
                          (try clear ho0)
                          refine hK.out _ _ ⟨(blk_cell BK176.out 0).trans rfl, (blk_cell BK176.out 1).trans rfl, ((HB.out.cell (World.block_lt_of_cell? w _ hw181_0)).trans hw181_0)⟩ (fun hHeld => ?_)
                          clear hK K
                          refine norm_ (a' := ?_) ?_ ?_
                          rotate_left
                          · show Act.put _ (some 46) _ = _
                            simp only [Act.put, List.setIfInBounds_toArray, List.set_cons_zero, List.set_cons_succ, i64_w, i32_w]
                            rfl
                          refine pure_ (i := 6) (N := some 40) (v := ?_) (a' := ?_) #[true, true, true, true, true, true, true, false, false, true, false, false] rfl rfl (any_of HT_.out (by kernel_rfl)) (fun _ _ _ h => h) (Or.inl ⟨by rfl, ?_⟩) ?_ ?_
                          rotate_left
                          · intro w'
                            go_simp
                            with_reducible rfl
                          rotate_left
                          · simp only [Act.put, List.setIfInBounds_toArray, List.set_cons_zero, List.set_cons_succ, i64_w, i32_w]
                            rfl
                          refine pure_ (i := 7) (N := some 47) (v := ?_) (a' := ?_) #[true, true, true, true, true, true, true, true, false, true, false, false] rfl rfl (any_of HT_.out (by kernel_rfl)) (fun _ _ _ h => h) (Or.inl ⟨by rfl, ?_⟩) ?_ ?_
                          rotate_left
                          · intro w'
                            go_simp
                            with_reducible rfl
                          rotate_left
                          · simp only [Act.put, List.setIfInBounds_toArray, List.set_cons_zero, List.set_cons_succ, i64_w, i32_w]
                            rfl
                          refine pure_ (i := 8) (N := some 48) (v := ?_) (a' := ?_) #[true, true, true, true, true, true, true, true, true, true, false, false] rfl rfl (any_of HT_.out (by kernel_rfl)) (fun _ _ _ h => h) (Or.inl ⟨by rfl, ?_⟩) ?_ ?_
                          rotate_left
                          · intro w'
                            go_simp
                            with_reducible rfl
                          rotate_left
                          · simp only [Act.put, List.setIfInBounds_toArray, List.set_cons_zero, List.set_cons_succ, i64_w, i32_w]
                            rfl
                          exact norm_ (by simp only [putAll, Act.put, List.setIfInBounds_toArray, List.set_cons_zero, List.set_cons_succ]) (hCont (v183, gb187) _ ⟨hHeld, (by (with_reducible repeat (first | apply Kd.V_alloc | apply Kd.V_drewN | apply Kd.V_drew)); exact HO184.out), (by (with_reducible repeat (first | apply Kd.V_alloc | apply Kd.V_drewN | apply Kd.V_drew)); exact Kd.V_mono HO_177000.out (fun _ hk => ⟨hk.1.1, ⟨hk.1.2, hk.2⟩⟩)), (by (with_reducible repeat (first | apply Kd.Q_alloc | apply Kd.Q_drewN | apply Kd.Q_drew)); exact HO_7.out), (by (with_reducible repeat (first | refine blk_drewN ?_ _ | refine blk_drew ?_ | refine blk_alloc ?_ _)); exact BK176.out), (by (with_reducible repeat (first | refine blk_drewN ?_ _ | refine blk_drew ?_ | refine blk_alloc ?_ _)); exact BK187.out), GW187.out, GE187.out, NB176_187.out, NB187_176.out, (by repeat (first | (with_reducible first | exact HB.out | apply below_alloc | apply pw_below_drewN | apply below_drew1 | refine below_set ?_ GE176.out | refine below_set ?_ GE187.out) | exact HB.out))⟩)
                      rintro ⟨v183, gb187⟩ w45 ⟨hS_, h0_, h1_, h2_, h3_, h4_, h5_, h6_, h7_, h8_, h9_⟩
                      have n0_ : Aside0 (Kd.V (Kd.int .i64) 3 w45 w.heap.size (fun k_ => some k_ ≠ (u7 : Value).ownBlock ∧ k_ ≠ gb176 ∧ k_ ≠ gb187) v183 t182) := ⟨h0_⟩
                      have n1_ : Aside0 (Kd.V (Kd.int .i64) 3 w45 w.heap.size (fun k_ => some k_ ≠ (u7 : Value).ownBlock ∧ k_ ≠ gb176 ∧ k_ ≠ gb187) (.slice Ao41 x177000_2.length co41) x177000_2) := ⟨h1_⟩
                      have n2_ : Aside0 (Kd.Q (Kd.int .i64) 3 w45 w.heap.size (fun _ => True) u7 x7_2) := ⟨h2_⟩
                      have n3_ : Aside0 (w45.heap[gb176]? = some (.cells #[.slice Ao41 x177000_2.length co41, .int .i64 x177001_2] 24 (0, 0))) := ⟨h3_⟩
                      have n4_ : Aside0 (w45.heap[gb187]? = some (.cells #[.slice none 0 0, .int .i64 0] 24 (0, 0))) := ⟨h4_⟩
                      have n5_ : Aside0 (w.heap.size ≤ gb187) := ⟨h5_⟩
                      have n6_ : Aside0 (w.heap.size ≤ gb187) := ⟨h6_⟩
                      have n7_ : Aside0 (gb176 ≠ gb187) := ⟨h7_⟩
                      have n8_ : Aside0 (gb187 ≠ gb176) := ⟨h8_⟩
                      have n9_ : Aside0 (Below w.heap.size w w45) := ⟨h9_⟩
                      clear HO_7
                      clear HO_177000
                      clear BK176
                      clear HB
                      clear h0_ h1_ h2_ h3_ h4_ h5_ h6_ h7_ h8_ h9_
                      have HO184 := n0_
                      have HO_177000 := n1_
                      have HO_7 := n2_
                      have BK176 := n3_
                      have BK187 := n4_
                      have GW187 := n5_
                      have GE187 := n6_
                      have NB176_187 := n7_
                      have NB187_176 := n8_
                      have HB := n9_
                      clear n0_ n1_ n2_ n3_ n4_ n5_ n6_ n7_ n8_ n9_
                      have hHeld : w45.cell? ⟨gb176, 0, none⟩ = some (.slice Ao41 x177000_2.length co41) ∧ w45.cell? ⟨gb176, 1, none⟩ = some (.int .i64 x177001_2) ∧ w45.cell? (ad180.add (x8_2).toNat) = some (.int .i64 (rd l1 x8_2)) := hS_
                      obtain ⟨Ao46, co46, eo46⟩ := Kd.V_slice HO184.out
                      (first | subst eo46 | (injection eo46 with f1_ f2_ f3_; have f4_ := f1_.symm; have f5_ := f3_.symm; clear f1_ f2_ f3_; subst f4_; subst f5_))
                      refine norm_ (a' := ?_) ?_ ?_
                      rotate_left
                      · simp only [putAll, Act.put, List.setIfInBounds_toArray, List.set_cons_zero, List.set_cons_succ]
                        rfl
                      refine one_ (i := 10) (N := none) #[true, true, true, true, true, true, true, true, true, true, true, false] rfl rfl (one_of HT_.out (by kernel_rfl)) (by decide) (fun K hK => ?_)
                      have hs47 : w45.cell? ⟨gb187, 0, none⟩ = some (.slice none 0 0) := (blk_cell BK187.out 0).trans rfl
                      have hfs47 := blk_frozen BK187.out 0
                      have hns47_0 := NB176_187.out
                      have hms47_0 := NB187_176.out
                      have hs48 : w45.cell? ⟨gb187, 1, none⟩ = some (.int .i64 0) := (blk_cell BK187.out 1).trans rfl
                      have hfs48 := blk_frozen BK187.out 1
                      have hns48_0 := NB176_187.out
                      have hms48_0 := NB187_176.out
                      refine skip_ (w1 := ?_) (by rfl) rfl ?_ ?_
                      rotate_left
                      · go_simp
                        rfl
                      refine hK.out _ _ ⟨((cell_far (p := ⟨gb187, _, none⟩) NB176_187.out _).trans (((cell_far (p := ⟨gb187, _, none⟩) NB176_187.out _).trans (hHeld.1)))), ((cell_far (p := ⟨gb187, _, none⟩) NB176_187.out _).trans (((cell_far (p := ⟨gb187, _, none⟩) NB176_187.out _).trans (hHeld.2.1)))), ((cell_far (p := ⟨gb187, _, none⟩) (by first | exact Nat.ne_of_lt (Nat.lt_of_lt_of_le (by have := World.block_lt_of_cell? _ _ hw181_0; first | rwa [add_block] at this | exact this) GW187.out) | (rw [add_block]; exact Nat.ne_of_lt (Nat.lt_of_lt_of_le (by have := World.block_lt_of_cell? _ _ hw181_0; first | rwa [add_block] at this | exact this) GW187.out)) | (show (Addr.add _ _).block ≠ _; rw [add_block]; exact Nat.ne_of_lt (Nat.lt_of_lt_of_le (by have := World.block_lt_of_cell? _ _ hw181_0; first | rwa [add_block] at this | exact this) GW187.out)) | (dsimp only; exact Nat.ne_of_lt (Nat.lt_of_lt_of_le (by have := World.block_lt_of_cell? _ _ hw181_0; first | rwa [add_block] at this | exact this) GW187.out))) _).trans (((cell_far (p := ⟨gb187, _, none⟩) (by first | exact Nat.ne_of_lt (Nat.lt_of_lt_of_le (by have := World.block_lt_of_cell? _ _ hw181_0; first | rwa [add_block] at this | exact this) GW187.out) | (rw [add_block]; exact Nat.ne_of_lt (Nat.lt_of_lt_of_le (by have := World.block_lt_of_cell? _ _ hw181_0; first | rwa [add_block] at this | exact this) GW187.out)) | (show (Addr.add _ _).block ≠ _; rw [add_block]; exact Nat.ne_of_lt (Nat.lt_of_lt_of_le (by have := World.block_lt_of_cell? _ _ hw181_0; first | rwa [add_block] at this | exact this) GW187.out)) | (dsimp only; exact Nat.ne_of_lt (Nat.lt_of_lt_of_le (by have := World.block_lt_of_cell? _ _ hw181_0; first | rwa [add_block] at this | exact this) GW187.out))) _).trans (hHeld.2.2))))⟩ (fun hHeld => ?_)
                      clear hK K
                      refine pure_ (i := 11) (N := some 10) (v := ?_) (a' := ?_) #[true, true, true, true, true, true, true, true, true, true, true, true] rfl rfl (any_of HT_.out (by kernel_rfl)) (fun _ _ _ h => h) (Or.inl ⟨by rfl, ?_⟩) ?_ ?_
                      rotate_left
                      · intro w'
                        go_simp
                        with_reducible rfl
                      rotate_left
                      · simp only [Act.put, List.setIfInBounds_toArray, List.set_cons_zero, List.set_cons_succ, i64_w, i32_w]
                        rfl
                      refine done_ (done_of HT_.out (by kernel_rfl)) ?_
                      have hnb49 := NB187_176.out
                      have hnc49 := NB176_187.out
                      have hcz50_0 : w45.cell? ⟨gb187, 0, none⟩ = some (.slice none 0 0) := (blk_cell BK187.out 0).trans rfl
                      have hcz50_1 : w45.cell? ⟨gb187, 1, none⟩ = some (.int .i64 0) := (blk_cell BK187.out 1).trans rfl
                      have hfz50_0 := blk_frozen BK187.out 0
                      have hfz50_1 := blk_frozen BK187.out 1
                      have hcz51_0 : w45.cell? ⟨gb176, 0, none⟩ = some (.slice Ao41 x177000_2.length co41) := (blk_cell BK176.out 0).trans rfl
                      have hcz51_1 : w45.cell? ⟨gb176, 1, none⟩ = some (.int .i64 x177001_2) := (blk_cell BK176.out 1).trans rfl
                      have hfz51_0 := blk_frozen BK176.out 0
                      have hfz51_1 := blk_frozen BK176.out 1
                      try go_wp2_with (first | ((with_reducible refine gate_callee (f := 19) rfl ?_); refine goesL_ (some 88) rfl rfl Try.func19 (by kernel_rfl) rfl #[.agg #[.slice Ao46 t182.length co46, .int .i64 t185]] rfl (by (try simp only [List.map_toArray, List.map_cons, List.map_nil]); first | done | rfl | (simp only [List.length_drop, List.length_take]; rfl)) ?_; (with_reducible refine (queue_Len_int.calls _ _ t182 t185 t193 _ ?side1 ?side2 A39.out).mono ?_); (case side1 => refine (Kd.V_reads' (e := 3) (base := w.heap.size) (ok := fun k_ => (some k_ ≠ (u7 : Value).ownBlock ∧ (k_ ≠ gb176 ∧ k_ ≠ gb187))) (n := t182.length) (c := co46) ?_).2.2; exact (by (with_reducible repeat (first | apply Kd.V_alloc | apply Kd.V_drewN | apply Kd.V_drew)); exact (Kd.V_mono (Kd.V_mono (Kd.V_far (p := ⟨gb176, 1, none⟩) (Kd.V_far (p := ⟨gb176, 0, none⟩) (Kd.V_far (p := ⟨gb187, 1, none⟩) (Kd.V_far (p := ⟨gb187, 0, none⟩) (Kd.V_mono (Kd.V_mono HO184.out (fun k_ hk => (⟨hk, hk.2.2⟩ : _ ∧ k_ ≠ gb187))) (fun k_ hk => (⟨hk, hk.1.2.1⟩ : _ ∧ k_ ≠ gb176))) (fun _ hk => hk.1.2) (.slice Ao46 t182.length co46)) (fun _ hk => hk.1.2) (.int .i64 t185)) (fun _ hk => hk.2) (.slice Ao46 t182.length co46)) (fun _ hk => hk.2) (.int .i64 t185)) (fun _ h_ => h_.1)) (fun _ h_ => h_.1)))); (case side2 => exact (Kd.V_reads' HO184.out).2.1); rintro e w52 ⟨rfl, hb⟩; refine ⟨_, rfl, ?_⟩; have n0_ := Aside0.mk (Kd.Q_below (by (with_reducible repeat (first | apply Kd.Q_alloc | apply Kd.Q_drewN | apply Kd.Q_drew)); exact (Kd.Q_mono (Kd.Q_mono (Kd.Q_far (p := ⟨gb176, 1, none⟩) (Kd.Q_far (p := ⟨gb176, 0, none⟩) (Kd.Q_far (p := ⟨gb187, 1, none⟩) (Kd.Q_far (p := ⟨gb187, 0, none⟩) (Kd.Q_types (Kd.Q_types HO_7.out BK187.out (by decide)) BK176.out (by decide)) (fun _ hk => hk.1.2) (.slice Ao46 t182.length co46)) (fun _ hk => hk.1.2) (.int .i64 t185)) (fun _ hk => hk.2) (.slice Ao46 t182.length co46)) (fun _ hk => hk.2) (.int .i64 t185)) (fun _ h_ => h_.1)) (fun _ h_ => h_.1))) hb); have n1_ := Aside0.mk (Kd.V_below (by (with_reducible repeat (first | apply Kd.V_alloc | apply Kd.V_drewN | apply Kd.V_drew)); exact (Kd.V_mono (Kd.V_mono (Kd.V_far (p := ⟨gb176, 1, none⟩) (Kd.V_far (p := ⟨gb176, 0, none⟩) (Kd.V_far (p := ⟨gb187, 1, none⟩) (Kd.V_far (p := ⟨gb187, 0, none⟩) (Kd.V_mono (Kd.V_mono HO_177000.out (fun k_ hk => (⟨hk, hk.2.2⟩ : _ ∧ k_ ≠ gb187))) (fun k_ hk => (⟨hk, hk.1.2.1⟩ : _ ∧ k_ ≠ gb176))) (fun _ hk => hk.1.2) (.slice Ao46 t182.length co46)) (fun _ hk => hk.1.2) (.int .i64 t185)) (fun _ hk => hk.2) (.slice Ao46 t182.length co46)) (fun _ hk => hk.2) (.int .i64 t185)) (fun _ h_ => h_.1)) (fun _ h_ => h_.1))) hb); have n2_ := Aside0.mk (Kd.V_below (by (with_reducible repeat (first | apply Kd.V_alloc | apply Kd.V_drewN | apply Kd.V_drew)); exact (Kd.V_mono (Kd.V_mono (Kd.V_far (p := ⟨gb176, 1, none⟩) (Kd.V_far (p := ⟨gb176, 0, none⟩) (Kd.V_far (p := ⟨gb187, 1, none⟩) (Kd.V_far (p := ⟨gb187, 0, none⟩) (Kd.V_mono (Kd.V_mono HO184.out (fun k_ hk => (⟨hk, hk.2.2⟩ : _ ∧ k_ ≠ gb187))) (fun k_ hk => (⟨hk, hk.1.2.1⟩ : _ ∧ k_ ≠ gb176))) (fun _ hk => hk.1.2) (.slice Ao46 t182.length co46)) (fun _ hk => hk.1.2) (.int .i64 t185)) (fun _ hk => hk.2) (.slice Ao46 t182.length co46)) (fun _ hk => hk.2) (.int .i64 t185)) (fun _ h_ => h_.1)) (fun _ h_ => h_.1))) hb); have n3_ := Aside0.mk (blk_below (g := gb176) (o := .cells #[.slice Ao46 t182.length co46, .int .i64 t185] 24 (0, 0)) (by (with_reducible repeat (first | refine blk_drewN ?_ _ | refine blk_drew ?_ | refine blk_alloc ?_ _)); refine blk_put (cs := #[.slice Ao46 t182.length co46, .int .i64 x177001_2]) ?_ 1 _ rfl; (with_reducible repeat (first | refine blk_drewN ?_ _ | refine blk_drew ?_ | refine blk_alloc ?_ _)); refine blk_put (cs := #[.slice Ao41 x177000_2.length co41, .int .i64 x177001_2]) ?_ 0 _ rfl; (with_reducible repeat (first | refine blk_drewN ?_ _ | refine blk_drew ?_ | refine blk_alloc ?_ _)); refine blk_far ?_ NB176_187.out _; (with_reducible repeat (first | refine blk_drewN ?_ _ | refine blk_drew ?_ | refine blk_alloc ?_ _)); refine blk_far ?_ NB176_187.out _; (with_reducible repeat (first | refine blk_drewN ?_ _ | refine blk_drew ?_ | refine blk_alloc ?_ _)); exact BK176.out) hb); have n4_ := Aside0.mk (blk_below (g := gb187) (o := .cells #[.slice Ao46 t182.length co46, .int .i64 t185] 24 (0, 0)) (by (with_reducible repeat (first | refine blk_drewN ?_ _ | refine blk_drew ?_ | refine blk_alloc ?_ _)); refine blk_far ?_ NB187_176.out _; (with_reducible repeat (first | refine blk_drewN ?_ _ | refine blk_drew ?_ | refine blk_alloc ?_ _)); refine blk_far ?_ NB187_176.out _; (with_reducible repeat (first | refine blk_drewN ?_ _ | refine blk_drew ?_ | refine blk_alloc ?_ _)); refine blk_put (cs := #[.slice Ao46 t182.length co46, .int .i64 0]) ?_ 1 _ rfl; (with_reducible repeat (first | refine blk_drewN ?_ _ | refine blk_drew ?_ | refine blk_alloc ?_ _)); refine blk_put (cs := #[.slice none 0 0, .int .i64 0]) ?_ 0 _ rfl; (with_reducible repeat (first | refine blk_drewN ?_ _ | refine blk_drew ?_ | refine blk_alloc ?_ _)); exact BK187.out) hb); have n5_ := Aside0.mk (below_step (by repeat (first | (with_reducible first | exact HB.out | apply below_alloc | apply pw_below_drewN | apply below_drew1 | refine below_set ?_ GE176.out | refine below_set ?_ GE187.out) | exact HB.out)) hb); clear HO_7; clear HO_177000; clear HO184; clear BK176; clear BK187; clear HB; have HO_7 := n0_; have HO_177000 := n1_; have HO184 := n2_; have BK176 := n3_; have BK187 := n4_; have HB := n5_; clear n0_ n1_ n2_ n3_ n4_ n5_; (try clear hb); (try clear hb2); (try clear hk); (try clear hi); obtain ⟨Ao53, co53, eo53, _⟩ := Kd.Q_slice HO_7.out; subst eo53))
                      go_roundg k2
                      case measure => have := HJ2.out; have := HK2.out; omega
                      case rel => exact ⟨(x7_2), (wrap64 (x8_2 + 1)), (t182), (t185), (.slice Ao46 t182.length co46), (by first | rfl | (simp; done) | (simp [*]; done)), H', ⟨by have := HJ2.out; have := HK2.out; omega⟩, ⟨by (with_reducible repeat (first | apply Kd.Q_alloc | apply Kd.Q_drewN | apply Kd.Q_drew)); exact HO_7.out⟩, ⟨by (with_reducible repeat (first | apply Kd.V_alloc | apply Kd.V_drewN | apply Kd.V_drew)); exact Kd.V_mono HO184.out (fun _ hk => ⟨hk.1, hk.2.1⟩)⟩, ⟨by (with_reducible repeat (first | refine blk_drewN ?_ _ | refine blk_drew ?_ | refine blk_alloc ?_ _)); exact BK176.out⟩, ⟨by repeat (first | (with_reducible first | exact HB.out | apply below_alloc | apply pw_below_drewN | apply below_drew1 | refine below_set ?_ GE176.out | refine below_set ?_ GE187.out) | exact HB.out)⟩⟩
                    · rw [if_neg c40] at H
                      exact absurd H (by simp)
                · rw [if_neg c19] at H
                  have c19b0 : ((Int.tmod (rd l1 x8_2) 2) == 0) = false := beq_eq_false_iff_ne.mpr c19
                  have c19b1 : ((Int.tmod (rd l1 x8_2) 2) != 0) = true := bne_iff_ne.mpr c19
                  replace H := Option.bind_eq_some_iff.mp H
                  obtain ⟨⟨t194, t197, t198, t199⟩, A540, H⟩ := H
                  replace H : (if ((t199 == 0) != (decide ((x7_2.length : Int) > 0))) = true then (none) else (if t199 = 0 then (if 0 < (x7_2.length : Int) then (mortmainlaw02_QueueTurns.j2 k2 l1 x7_2 x8_2 t199 (t198 != (rd x7_2 0)) t194 t197) else (none)) else (mortmainlaw02_QueueTurns.j2 k2 l1 x7_2 x8_2 t199 false t194 t197))) = some r := H
                  have A54 := Aside0.mk A540
                  clear A540
                  have HC55 := Aside0.mk H
                  clear H
                  have p180 : 0 ≤ (x8_2 : Int) := of_decide_eq_true (by first | (with_reducible assumption) | assumption)
                  have q180 : x8_2 < (l1.length : Int) := of_decide_eq_true (by first | (with_reducible assumption) | assumption)
                  obtain ⟨ad180, e180, hx180_0⟩ := Kd.at_int HR1.out x8_2 p180 q180
                  cases e180
                  replace hx180_0 := (HB.out.cell (World.block_lt_of_cell? w _ hx180_0)).trans hx180_0
                  replace p180 := eq_true p180
                  replace q180 := eq_true q180
                  have hcz56_0 : wr.cell? ⟨gb176, 0, none⟩ = some (u177000) := (blk_cell BK176.out 0).trans rfl
                  have hcz56_1 : wr.cell? ⟨gb176, 1, none⟩ = some (.int .i64 x177001_2) := (blk_cell BK176.out 1).trans rfl
                  have hfz56_0 := blk_frozen BK176.out 0
                  have hfz56_1 := blk_frozen BK176.out 1
                  obtain ⟨Ao57, co57, eo57⟩ := Kd.V_slice HO_177000.out
                  subst eo57
                  go_upto_region 15 with (first | ((with_reducible refine gate_callee (f := 13) rfl ?_); refine goesL_ (some 61) rfl rfl Try.func13 (by kernel_rfl) rfl #[.agg #[.slice Ao57 x177000_2.length co57, .int .i64 x177001_2]] rfl (by (try simp only [List.map_toArray, List.map_cons, List.map_nil]); first | done | rfl | (simp only [List.length_drop, List.length_take]; rfl)) ?_; (with_reducible refine (queue_Pop_int.calls (fun k_ => (some k_ ≠ (u7 : Value).ownBlock ∧ k_ ≠ gb176)) _ _ x177000_2 x177001_2 t194 t197 t198 t199 _ ?side1 A54.out).mono ?_); (case side1 => exact HO_177000.out); rintro e w58 ⟨v195, rfl, ho0, hb⟩; refine ⟨_, rfl, ?_⟩; have n0_ := Aside0.mk (Kd.Q_below (by (with_reducible repeat (first | apply Kd.Q_alloc | apply Kd.Q_drewN | apply Kd.Q_drew)); exact HO_7.out) hb); have n1_ := Aside0.mk (Kd.V_below (by (with_reducible repeat (first | apply Kd.V_alloc | apply Kd.V_drewN | apply Kd.V_drew)); exact HO_177000.out) hb); have n2_ := Aside0.mk (Kd.V_lower (Kd.V_mono (ok' := fun k_ => some k_ ≠ (u7 : Value).ownBlock ∧ k_ ≠ gb176) ho0 (fun k_ hk_ => ⟨Or.elim hk_ (fun hs_ => hs_.1) (fun hn_ => (Kd.fresh' (Kd.Q_lt (by (with_reducible repeat (first | apply Kd.Q_alloc | apply Kd.Q_drewN | apply Kd.Q_drew)); exact HO_7.out)) k_ hn_)), Or.elim hk_ (fun hs_ => hs_.2) (fun hn_ => (Kd.freshB (g := gb176) (o := .cells #[.slice Ao57 x177000_2.length co57, .int .i64 x177001_2] 24 (0, 0)) (by (with_reducible repeat (first | refine blk_drewN ?_ _ | refine blk_drew ?_ | refine blk_alloc ?_ _)); exact BK176.out) k_ hn_))⟩)) (below_size (by repeat (first | (with_reducible first | exact HB.out | apply below_alloc | apply pw_below_drewN | apply below_drew1 | refine below_set ?_ GE176.out) | exact HB.out)))); have n3_ := Aside0.mk (blk_below (g := gb176) (o := .cells #[.slice Ao57 x177000_2.length co57, .int .i64 x177001_2] 24 (0, 0)) (by (with_reducible repeat (first | refine blk_drewN ?_ _ | refine blk_drew ?_ | refine blk_alloc ?_ _)); exact BK176.out) hb); have n4_ := Aside0.mk (below_step (by repeat (first | (with_reducible first | exact HB.out | apply below_alloc | apply pw_below_drewN | apply below_drew1 | refine below_set ?_ GE176.out) | exact HB.out)) hb); clear HO_7; clear HO_177000; clear BK176; clear HB; have HO_7 := n0_; have HO_177000 := n1_; have HO196 := n2_; have BK176 := n3_; have HB := n4_; clear n0_ n1_ n2_ n3_ n4_; (try clear hb); (try clear hb2); (try clear hk); (try clear hi); (try clear ho0)) | ((with_reducible refine gate_dst (N := 11) rfl ?_); refine box_event ?hg (N := 11) ?hd (cs := #[.slice none 0 0, .int .i64 0]) (t := 24) ?hr ?_; (case hd => rfl); (case hg => rfl); (case hr => first | (go_simp; done) | (go_simp; rfl)); intro gb200 hg w59 hbox hb; have n0_ := Aside0.mk (Kd.Q_below (by (with_reducible repeat (first | apply Kd.Q_alloc | apply Kd.Q_drewN | apply Kd.Q_drew)); exact HO_7.out) hb); have n1_ := Aside0.mk (Kd.V_below (Kd.V_elderB (by (with_reducible repeat (first | apply Kd.V_alloc | apply Kd.V_drewN | apply Kd.V_drew)); exact HO_177000.out) gb200 (Nat.le_of_eq hg.symm)) hb); have n2_ := Aside0.mk (Kd.V_below (Kd.V_elderB (by (with_reducible repeat (first | apply Kd.V_alloc | apply Kd.V_drewN | apply Kd.V_drew)); exact HO196.out) gb200 (Nat.le_of_eq hg.symm)) hb); have n3_ := Aside0.mk (blk_below (g := gb176) (o := .cells #[.slice Ao57 x177000_2.length co57, .int .i64 x177001_2] 24 (0, 0)) (by (with_reducible repeat (first | refine blk_drewN ?_ _ | refine blk_drew ?_ | refine blk_alloc ?_ _)); exact BK176.out) hb); have n4_ := Aside0.mk (below_step (by repeat (first | (with_reducible first | exact HB.out | apply below_alloc | apply pw_below_drewN | apply below_drew1 | refine below_set ?_ GE176.out) | exact HB.out)) hb); have n5_ := Aside0.mk (hbox); have n6_ := Aside0.mk ((by rw [hg]; exact (below_size (by repeat (first | (with_reducible first | exact HB.out | apply below_alloc | apply pw_below_drewN | apply below_drew1 | refine below_set ?_ GE176.out) | exact HB.out))) : w.heap.size ≤ gb200)); have n7_ := Aside0.mk ((by rw [hg]; exact (below_size (by repeat (first | (with_reducible first | exact HB.out | apply below_alloc | apply pw_below_drewN | apply below_drew1 | refine below_set ?_ GE176.out) | exact HB.out))) : w.heap.size ≤ gb200)); have n8_ := Aside0.mk ((by rw [hg]; exact Nat.ne_of_lt (blk_lt (g := gb176) (o := .cells #[.slice Ao57 x177000_2.length co57, .int .i64 x177001_2] 24 (0, 0)) (by (with_reducible repeat (first | refine blk_drewN ?_ _ | refine blk_drew ?_ | refine blk_alloc ?_ _)); exact BK176.out)) : gb176 ≠ gb200)); have n9_ := Aside0.mk ((by rw [hg]; exact Nat.ne_of_gt (blk_lt (g := gb176) (o := .cells #[.slice Ao57 x177000_2.length co57, .int .i64 x177001_2] 24 (0, 0)) (by (with_reducible repeat (first | refine blk_drewN ?_ _ | refine blk_drew ?_ | refine blk_alloc ?_ _)); exact BK176.out)) : gb200 ≠ gb176)); clear HO_7; clear HO_177000; clear HO196; clear BK176; clear HB; have HO_7 := n0_; have HO_177000 := n1_; have HO196 := n2_; have BK176 := n3_; have HB := n4_; have BK200 := n5_; have GW200 := n6_; have GE200 := n7_; have NB176_200 := n8_; have NB200_176 := n9_; clear n0_ n1_ n2_ n3_ n4_ n5_ n6_ n7_ n8_ n9_; clear hb hbox hg; obtain ⟨Ao60, co60, eo60⟩ := Kd.V_slice HO196.out; subst eo60; have hnb61 := NB200_176.out; have hnc61 := NB176_200.out; have hcz62_0 : w59.cell? ⟨gb200, 0, none⟩ = some (.slice none 0 0) := (blk_cell BK200.out 0).trans rfl; have hcz62_1 : w59.cell? ⟨gb200, 1, none⟩ = some (.int .i64 0) := (blk_cell BK200.out 1).trans rfl; have hfz62_0 := blk_frozen BK200.out 0; have hfz62_1 := blk_frozen BK200.out 1))
                  (try simp only [Act.put, List.setIfInBounds_toArray, List.set_cons_zero, List.set_cons_succ])
                  go_cut [81] (fun v81 wc => ∃ (kq : Nat) (x81_54 : Bool), v81 = .bool x81_54 ∧ Aside0 (mortmainlaw02_QueueTurns.j2 kq l1 x7_2 x8_2 t199 x81_54 t194 t197 = some r) ∧ Aside0 (kq ≤ k2) ∧ Aside0 (Kd.Q (Kd.int .i64) 3 wc w.heap.size (fun _ => True) u7 x7_2) ∧ Aside0 (Kd.V (Kd.int .i64) 3 wc w.heap.size (fun k_ => some k_ ≠ (u7 : Value).ownBlock ∧ k_ ≠ gb176 ∧ k_ ≠ gb200) (.slice Ao57 x177000_2.length co57) x177000_2) ∧ Aside0 (Kd.V (Kd.int .i64) 3 wc w.heap.size (fun k_ => some k_ ≠ (u7 : Value).ownBlock ∧ k_ ≠ gb176 ∧ k_ ≠ gb200) (.slice Ao60 t194.length co60) t194) ∧ Aside0 (wc.heap[gb176]? = some (.cells #[(.slice Ao57 x177000_2.length co57), .int .i64 x177001_2] 24 (0, 0))) ∧ Aside0 (wc.heap[gb200]? = some (.cells #[(.slice Ao60 t194.length co60), .int .i64 t197] 24 (0, 0))) ∧ Aside0 (Below w.heap.size w wc))
                  case first =>
                    have H := HC55.out
                    clear HC55
                    by_cases c63 : ((t199 == 0) != (decide ((x7_2.length : Int) > 0))) = true
                    · rw [if_pos c63] at H
                      exact absurd H (by simp)
                    · rw [if_neg c63] at H
                      have c63b0 : ((t199 == 0) != (decide ((x7_2.length : Int) > 0))) = false := by simpa using c63
                      (try (have c63b1 : decide ((t199 == 0) = (decide ((x7_2.length : Int) > 0))) = true := by simpa using c63))
                      (try (have c63b2 : ((t199 == 0) == (decide ((x7_2.length : Int) > 0))) = true := by simpa using c63))
                      clear c63
                      (first | rw [c63b0] | (simp only [i64_w, i32_w]; rw [c63b0]) | skip)
                      by_cases c64 : t199 = 0
                      · rw [if_pos c64] at H
                        have c64b0 : (t199 == 0) = true := beq_iff_eq.mpr c64
                        have c64b1 : (t199 != 0) = false := bne_eq_false_iff_eq.mpr c64
                        clear c64
                        by_cases c65 : 0 < (x7_2.length : Int)
                        · rw [if_pos c65] at H
                          have c65b0 : decide (0 < (x7_2.length : Int)) = true := decide_eq_true c65
                          have c65b1 : decide (0 < x7_2.length) = true := decide_eq_true (by omega)
                          clear c65
                          have H' := Aside0.mk H
                          clear H
                          obtain ⟨Ao66, co66, eo66, _⟩ := Kd.Q_slice HO_7.out
                          subst eo66
                          have p201 : 0 ≤ (0 : Int) := (by omega)
                          have q201 : 0 < (x7_2.length : Int) := of_decide_eq_true (by first | (with_reducible assumption) | assumption)
                          obtain ⟨ad201, e201, hx201_0⟩ := Kd.at_int (Kd.Q_reads' HO_7.out).2.2 0 p201 q201
                          cases e201
                          have qi201 : (0 < x7_2.length) = True := eq_true (by omega)
                          (try rw [show ((0 : Int)).toNat = 0 from rfl] at hx201_0)
                          (try rw [Addr.add_zero'] at hx201_0)
                          have hn201_0 : ad201.block ≠ gb200 := Kd.own_blk (Kd.Q_ne HO_7.out BK200.out (by decide))
                          have hn201_1 : ad201.block ≠ gb200 := Kd.own_blk (Kd.Q_ne HO_7.out BK200.out (by decide))
                          replace hx201_0 := (cell_far (p := ⟨gb200, 0, none⟩) (by first | (rw [add_block]; exact hn201_0) | (show (Addr.add _ _).block ≠ _; rw [add_block]; exact hn201_0) | exact hn201_0) (.slice Ao60 t194.length co60)).trans hx201_0
                          replace hx201_0 := (cell_far (p := ⟨gb200, 1, none⟩) (by first | (rw [add_block]; exact hn201_1) | (show (Addr.add _ _).block ≠ _; rw [add_block]; exact hn201_1) | exact hn201_1) (.int .i64 t197)).trans hx201_0
                          clear hn201_0
                          clear hn201_1
                          replace p201 := eq_true p201
                          replace q201 := eq_true q201
                          go_wp2
                          go_meet
                          case rel => exact ⟨_, ((t198 != (rd x7_2 0))), (by first | rfl | (simp; done) | (simp [*]; done)), H', ⟨by have := HJ2.out; have := HK2.out; first | omega | exact Nat.le_refl _⟩, ⟨by (with_reducible repeat (first | apply Kd.Q_alloc | apply Kd.Q_drewN | apply Kd.Q_drew)); exact Kd.Q_mono (Kd.Q_far (p := ⟨gb200, 1, none⟩) (Kd.Q_far (p := ⟨gb200, 0, none⟩) (Kd.Q_types HO_7.out BK200.out (by decide)) (fun _ hk => hk.2) (.slice Ao60 t194.length co60)) (fun _ hk => hk.2) (.int .i64 t197)) (fun _ hk => trivial)⟩, ⟨by (with_reducible repeat (first | apply Kd.V_alloc | apply Kd.V_drewN | apply Kd.V_drew)); exact Kd.V_mono (Kd.V_far (p := ⟨gb200, 1, none⟩) (Kd.V_far (p := ⟨gb200, 0, none⟩) (Kd.V_mono HO_177000.out (fun k_ hk => (⟨hk, hk.2⟩ : _ ∧ k_ ≠ gb200))) (fun _ hk => hk.2) (.slice Ao60 t194.length co60)) (fun _ hk => hk.2) (.int .i64 t197)) (fun _ hk => ⟨hk.1.1.1, ⟨hk.1.1.2, hk.1.2⟩⟩)⟩, ⟨by (with_reducible repeat (first | apply Kd.V_alloc | apply Kd.V_drewN | apply Kd.V_drew)); exact Kd.V_mono (Kd.V_far (p := ⟨gb200, 1, none⟩) (Kd.V_far (p := ⟨gb200, 0, none⟩) (Kd.V_mono HO196.out (fun k_ hk => (⟨hk, hk.2⟩ : _ ∧ k_ ≠ gb200))) (fun _ hk => hk.2) (.slice Ao60 t194.length co60)) (fun _ hk => hk.2) (.int .i64 t197)) (fun _ hk => ⟨hk.1.1.1, ⟨hk.1.1.2, hk.1.2⟩⟩)⟩, ⟨by (with_reducible repeat (first | refine blk_drewN ?_ _ | refine blk_drew ?_ | refine blk_alloc ?_ _)); refine blk_far ?_ NB176_200.out _; (with_reducible repeat (first | refine blk_drewN ?_ _ | refine blk_drew ?_ | refine blk_alloc ?_ _)); refine blk_far ?_ NB176_200.out _; (with_reducible repeat (first | refine blk_drewN ?_ _ | refine blk_drew ?_ | refine blk_alloc ?_ _)); exact BK176.out⟩, ⟨by (with_reducible repeat (first | refine blk_drewN ?_ _ | refine blk_drew ?_ | refine blk_alloc ?_ _)); refine blk_put (cs := #[.slice Ao60 t194.length co60, .int .i64 0]) ?_ 1 _ rfl; (with_reducible repeat (first | refine blk_drewN ?_ _ | refine blk_drew ?_ | refine blk_alloc ?_ _)); refine blk_put (cs := #[.slice none 0 0, .int .i64 0]) ?_ 0 _ rfl; (with_reducible repeat (first | refine blk_drewN ?_ _ | refine blk_drew ?_ | refine blk_alloc ?_ _)); exact BK200.out⟩, ⟨by repeat (first | (with_reducible first | exact HB.out | apply below_alloc | apply pw_below_drewN | apply below_drew1 | refine below_set ?_ GE176.out | refine below_set ?_ GE200.out) | exact HB.out)⟩⟩
                        · rw [if_neg c65] at H
                          exact absurd H (by simp)
                      · rw [if_neg c64] at H
                        have c64b0 : (t199 == 0) = false := beq_eq_false_iff_ne.mpr c64
                        have c64b1 : (t199 != 0) = true := bne_iff_ne.mpr c64
                        have H' := Aside0.mk H
                        clear H
                        obtain ⟨Ao67, co67, eo67, _⟩ := Kd.Q_slice HO_7.out
                        subst eo67
                        have c63c : decide (0 < (x7_2.length : Int)) = false := by rw [c64b0] at c63b0; simpa using c63b0
                        have c63d : decide (0 < x7_2.length) = false := decide_eq_false (by have := of_decide_eq_false c63c; omega)
                        try clear c63b1
                        try clear c63b2
                        clear c63b0
                        go_wp2
                        go_meet
                        case rel => exact ⟨_, (false), (by first | rfl | (simp; done) | (simp [*]; done)), H', ⟨by have := HJ2.out; have := HK2.out; first | omega | exact Nat.le_refl _⟩, ⟨by (with_reducible repeat (first | apply Kd.Q_alloc | apply Kd.Q_drewN | apply Kd.Q_drew)); exact Kd.Q_mono (Kd.Q_far (p := ⟨gb200, 1, none⟩) (Kd.Q_far (p := ⟨gb200, 0, none⟩) (Kd.Q_types HO_7.out BK200.out (by decide)) (fun _ hk => hk.2) (.slice Ao60 t194.length co60)) (fun _ hk => hk.2) (.int .i64 t197)) (fun _ hk => trivial)⟩, ⟨by (with_reducible repeat (first | apply Kd.V_alloc | apply Kd.V_drewN | apply Kd.V_drew)); exact Kd.V_mono (Kd.V_far (p := ⟨gb200, 1, none⟩) (Kd.V_far (p := ⟨gb200, 0, none⟩) (Kd.V_mono HO_177000.out (fun k_ hk => (⟨hk, hk.2⟩ : _ ∧ k_ ≠ gb200))) (fun _ hk => hk.2) (.slice Ao60 t194.length co60)) (fun _ hk => hk.2) (.int .i64 t197)) (fun _ hk => ⟨hk.1.1.1, ⟨hk.1.1.2, hk.1.2⟩⟩)⟩, ⟨by (with_reducible repeat (first | apply Kd.V_alloc | apply Kd.V_drewN | apply Kd.V_drew)); exact Kd.V_mono (Kd.V_far (p := ⟨gb200, 1, none⟩) (Kd.V_far (p := ⟨gb200, 0, none⟩) (Kd.V_mono HO196.out (fun k_ hk => (⟨hk, hk.2⟩ : _ ∧ k_ ≠ gb200))) (fun _ hk => hk.2) (.slice Ao60 t194.length co60)) (fun _ hk => hk.2) (.int .i64 t197)) (fun _ hk => ⟨hk.1.1.1, ⟨hk.1.1.2, hk.1.2⟩⟩)⟩, ⟨by (with_reducible repeat (first | refine blk_drewN ?_ _ | refine blk_drew ?_ | refine blk_alloc ?_ _)); refine blk_far ?_ NB176_200.out _; (with_reducible repeat (first | refine blk_drewN ?_ _ | refine blk_drew ?_ | refine blk_alloc ?_ _)); refine blk_far ?_ NB176_200.out _; (with_reducible repeat (first | refine blk_drewN ?_ _ | refine blk_drew ?_ | refine blk_alloc ?_ _)); exact BK176.out⟩, ⟨by (with_reducible repeat (first | refine blk_drewN ?_ _ | refine blk_drew ?_ | refine blk_alloc ?_ _)); refine blk_put (cs := #[.slice Ao60 t194.length co60, .int .i64 0]) ?_ 1 _ rfl; (with_reducible repeat (first | refine blk_drewN ?_ _ | refine blk_drew ?_ | refine blk_alloc ?_ _)); refine blk_put (cs := #[.slice none 0 0, .int .i64 0]) ?_ 0 _ rfl; (with_reducible repeat (first | refine blk_drewN ?_ _ | refine blk_drew ?_ | refine blk_alloc ?_ _)); exact BK200.out⟩, ⟨by repeat (first | (with_reducible first | exact HB.out | apply below_alloc | apply pw_below_drewN | apply below_drew1 | refine below_set ?_ GE176.out | refine below_set ?_ GE200.out) | exact HB.out)⟩⟩
                  case rest =>
                    clear HC55
                    try clear c1
                    try clear p1
                    try clear q1
                    try clear hx1
                    try clear c2
                    try clear p2
                    try clear q2
                    try clear hx2
                    try clear qi2
                    try clear c3
                    try clear c4
                    try clear c6
                    try clear p6
                    try clear c10
                    try clear c13
                    try clear p18
                    try clear q18
                    try clear hx18
                    try clear c19
                    try clear c19b0
                    try clear c19b1
                    try clear p20
                    try clear q20
                    try clear hx20
                    try clear qi20
                    try clear c21
                    try clear c21b0
                    try clear c21b1
                    try clear c22
                    try clear c24
                    try clear c34
                    try clear c40
                    try clear c40b0
                    try clear c40b1
                    try clear c49
                    try clear c61
                    try clear c63
                    try clear c63b0
                    try clear c63b1
                    try clear c63b2
                    try clear c64
                    try clear c64b0
                    try clear c64b1
                    try clear p64
                    try clear c65
                    try clear c65b0
                    try clear c65b1
                    try clear hcz35_0
                    try clear hcz35_1
                    try clear hcz36_0
                    try clear hcz36_1
                    try clear hcz50_0
                    try clear hcz50_1
                    try clear hcz51_0
                    try clear hcz51_1
                    try clear hcz56_0
                    try clear hcz56_1
                    try clear hcz62_0
                    try clear hcz62_1
                    try clear hfz35_0
                    try clear hfz35_1
                    try clear hfz36_0
                    try clear hfz36_1
                    try clear hfz50_0
                    try clear hfz50_1
                    try clear hfz51_0
                    try clear hfz51_1
                    try clear hfz56_0
                    try clear hfz56_1
                    try clear hfz62_0
                    try clear hfz62_1
                    try clear hx180_0
                    try clear hx181_0
                    try clear hx188_0
                    try clear hx201_0
                    try clear p180
                    try clear p181
                    try clear p188
                    try clear p201
                    try clear q180
                    try clear q181
                    try clear q188
                    try clear q201
                    obtain ⟨kq, x81_54, rfl, HA, HJ54, HO_7, HO_177000, HO_201000, BK176, BK200, HB⟩ := hcut
                    cases kq with
                    | zero => exact absurd HA.out (by simp [mortmainlaw02_QueueTurns.j2])
                    | succ kj54 =>
                      have H := HA.out
                      clear HA
                      simp only [mortmainlaw02_QueueTurns.j2] at H
                      by_cases c68 : x81_54 = true
                      · subst c68
                        have H1 : (none) = some r := by rw [if_pos rfl] at H; exact H
                        clear H
                        have H := H1
                        clear H1
                        exact absurd H (by simp)
                      · replace c68 := Bool.eq_false_iff.mpr c68
                        subst c68
                        have H1 : (if t199 = 0 then (if 1 ≤ (x7_2.length : Int) then ((some (x7_2.drop (1 : Int).toNat : List Int)).bind fun y202 => ((queue_Len_int.f t194 t197).bind fun t205 => (if t205 = (y202.length : Int) then (mortmainlaw02_QueueTurns.l0 kj54 l1 y202 (wrap64 (x8_2 + 1)) t194 t197) else (none)))) else (none)) else ((queue_Len_int.f t194 t197).bind fun t206 => (if t206 = (x7_2.length : Int) then (mortmainlaw02_QueueTurns.l0 kj54 l1 x7_2 (wrap64 (x8_2 + 1)) t194 t197) else (none)))) = some r := by rw [if_neg (show ¬ (false = true) by decide)] at H; exact H
                        clear H
                        have H := H1
                        clear H1
                        by_cases c69 : t199 = 0
                        · rw [if_pos c69] at H
                          have c69b0 : (t199 == 0) = true := beq_iff_eq.mpr c69
                          have c69b1 : (t199 != 0) = false := bne_eq_false_iff_eq.mpr c69
                          clear c69
                          by_cases c70 : 1 ≤ (x7_2.length : Int)
                          · rw [if_pos c70] at H
                            have c70b0 := eq_true c70
                            have c70b1 : decide (1 ≤ (x7_2.length : Int)) = true := decide_eq_true c70
                            clear c70
                            obtain ⟨y202, hy202⟩ : ∃ y_ : List Int, y_ = (x7_2.drop (1 : Int).toNat) := ⟨_, rfl⟩
                            replace H : ((queue_Len_int.f t194 t197).bind fun t205 => (if t205 = (y202.length : Int) then (mortmainlaw02_QueueTurns.l0 kj54 l1 y202 (wrap64 (x8_2 + 1)) t194 t197) else (none))) = some r := by first | (rw [hy202]; with_reducible exact H) | (have H2_ := (Option.bind_some _ _).symm.trans H; rw [hy202]; with_reducible exact H2_) | (have H2_ := (Option.bind_some _ _).symm.trans H; with_reducible exact H2_) | with_reducible exact H | (rw [hy202]; exact H) | exact H
                            have Ny202 := Aside0.mk hy202
                            clear hy202
                            replace H := Option.bind_eq_some_iff.mp H
                            obtain ⟨t205, A710, H⟩ := H
                            replace H : (if t205 = (y202.length : Int) then (mortmainlaw02_QueueTurns.l0 kj54 l1 y202 (wrap64 (x8_2 + 1)) t194 t197) else (none)) = some r := H
                            have A71 := Aside0.mk A710
                            clear A710
                            by_cases c72 : t205 = (y202.length : Int)
                            · rw [if_pos c72] at H
                              have c72b0 : (t205 == (y202.length : Int)) = true := beq_iff_eq.mpr c72
                              have c72b1 : (t205 != (y202.length : Int)) = false := bne_eq_false_iff_eq.mpr c72
                              clear c72
                              have H' := Aside0.mk H
                              clear H
                              obtain ⟨Ao73, co73, eo73, _⟩ := Kd.Q_slice HO_7.out
                              subst eo73
                              have q74 : (1 : Int) ≤ ((x7_2.length : Int) : Int) := of_decide_eq_true (by first | (with_reducible assumption) | assumption)
                              obtain ⟨i074, hi074, _, hsz74, _⟩ := info_parts info3
                              have hcut74 := cut_from (P := Try.prog) 22 3 .i64 Try.underlying22 hi074 1 hsz74 Ao73 x7_2.length co73 1 (by omega) q74
                              have hr74 := Kd.Q_drop (k := (1 : Int).toNat) HO_7.out (by omega)
                              obtain ⟨A74, hA74⟩ : ∃ A1, A1 = (if co73 = (1 : Int).toNat then Ao73 else (Ao73 : Option Addr).map (·.add ((1 : Int).toNat * 1))) := ⟨_, rfl⟩
                              obtain ⟨c74, hc74⟩ : ∃ c1, c1 = co73 - (1 : Int).toNat := ⟨_, rfl⟩
                              have hy74 : y202.length = x7_2.length - (1 : Int).toNat := (by rw [Ny202.out, List.length_drop])
                              rw [← Ny202.out] at hr74
                              rw [← hy74, ← hA74, ← hc74] at hcut74
                              replace hr74 : Kd.Q (Kd.int .i64) 3 wc w.heap.size (fun _ => True) (.slice A74 y202.length c74) y202 := (by rw [hA74, hc74, hy74]; exact hr74)
                              have HE74 : Aside0 ((Value.slice A74 y202.length c74).ownBlock = (.slice Ao73 x7_2.length co73 : Value).ownBlock) := ⟨by rw [hA74]; split <;> (cases (Ao73 : Option Addr) <;> rfl)⟩
                              clear hy74 hi074 hsz74 HO_7 hA74 hc74
                              have HO204 := Aside0.mk hr74
                              clear hr74
                              replace q74 := eq_true q74
                              have n_ := Aside0.mk (Kd.V_mono (ok' := fun k_ => (some k_ ≠ (.slice A74 y202.length c74 : Value).ownBlock ∧ (k_ ≠ gb176 ∧ k_ ≠ gb200))) HO_177000.out (fun k_ hk => ⟨(by rw [HE74.out]; exact hk.1), ⟨hk.2.1, hk.2.2⟩⟩))
                              clear HO_177000
                              have HO_177000 := n_
                              clear n_
                              have n_ := Aside0.mk (Kd.V_mono (ok' := fun k_ => (some k_ ≠ (.slice A74 y202.length c74 : Value).ownBlock ∧ (k_ ≠ gb176 ∧ k_ ≠ gb200))) HO_201000.out (fun k_ hk => ⟨(by rw [HE74.out]; exact hk.1), ⟨hk.2.1, hk.2.2⟩⟩))
                              clear HO_201000
                              have HO_201000 := n_
                              clear n_
                              have hnb75 := NB200_176.out
                              have hnc75 := NB176_200.out
                              have hcz76_0 : wc.cell? ⟨gb200, 0, none⟩ = some (.slice Ao60 t194.length co60) := (blk_cell BK200.out 0).trans rfl
                              have hcz76_1 : wc.cell? ⟨gb200, 1, none⟩ = some (.int .i64 t197) := (blk_cell BK200.out 1).trans rfl
                              have hfz76_0 := blk_frozen BK200.out 0
                              have hfz76_1 := blk_frozen BK200.out 1
                              have hcz77_0 : wc.cell? ⟨gb176, 0, none⟩ = some (.slice Ao57 x177000_2.length co57) := (blk_cell BK176.out 0).trans rfl
                              have hcz77_1 : wc.cell? ⟨gb176, 1, none⟩ = some (.int .i64 x177001_2) := (blk_cell BK176.out 1).trans rfl
                              have hfz77_0 := blk_frozen BK176.out 0
                              have hfz77_1 := blk_frozen BK176.out 1
                              go_wp2_with (first | ((with_reducible refine gate_callee (f := 19) rfl ?_); refine goesL_ (some 88) rfl rfl Try.func19 (by kernel_rfl) rfl #[.agg #[.slice Ao60 t194.length co60, .int .i64 t197]] rfl (by (try simp only [List.map_toArray, List.map_cons, List.map_nil]); first | done | rfl | (simp only [List.length_drop, List.length_take]; rfl)) ?_; (with_reducible refine (queue_Len_int.calls _ _ t194 t197 t205 _ ?side1 ?side2 A71.out).mono ?_); (case side1 => refine (Kd.V_reads' (e := 3) (base := w.heap.size) (ok := fun k_ => (some k_ ≠ (.slice A74 y202.length c74 : Value).ownBlock ∧ (k_ ≠ gb176 ∧ k_ ≠ gb200))) (n := t194.length) (c := co60) ?_).2.2; exact (by (with_reducible repeat (first | apply Kd.V_alloc | apply Kd.V_drewN | apply Kd.V_drew)); exact (Kd.V_mono (Kd.V_far (p := ⟨gb176, 1, none⟩) (Kd.V_far (p := ⟨gb176, 0, none⟩) (Kd.V_mono HO_201000.out (fun k_ hk => (⟨hk, hk.2.1⟩ : _ ∧ k_ ≠ gb176))) (fun _ hk => hk.2) (.slice Ao60 t194.length co60)) (fun _ hk => hk.2) (.int .i64 t197)) (fun _ h_ => h_.1)))); (case side2 => exact (Kd.V_reads' HO_201000.out).2.1); rintro e w78 ⟨rfl, hb⟩; refine ⟨_, rfl, ?_⟩; have n0_ := Aside0.mk (Kd.Q_below (by (with_reducible repeat (first | apply Kd.Q_alloc | apply Kd.Q_drewN | apply Kd.Q_drew)); exact (Kd.Q_mono (Kd.Q_far (p := ⟨gb176, 1, none⟩) (Kd.Q_far (p := ⟨gb176, 0, none⟩) (Kd.Q_types HO204.out BK176.out (by decide)) (fun _ hk => hk.2) (.slice Ao60 t194.length co60)) (fun _ hk => hk.2) (.int .i64 t197)) (fun _ h_ => h_.1))) hb); have n1_ := Aside0.mk (Kd.V_below (by (with_reducible repeat (first | apply Kd.V_alloc | apply Kd.V_drewN | apply Kd.V_drew)); exact (Kd.V_mono (Kd.V_far (p := ⟨gb176, 1, none⟩) (Kd.V_far (p := ⟨gb176, 0, none⟩) (Kd.V_mono HO_177000.out (fun k_ hk => (⟨hk, hk.2.1⟩ : _ ∧ k_ ≠ gb176))) (fun _ hk => hk.2) (.slice Ao60 t194.length co60)) (fun _ hk => hk.2) (.int .i64 t197)) (fun _ h_ => h_.1))) hb); have n2_ := Aside0.mk (Kd.V_below (by (with_reducible repeat (first | apply Kd.V_alloc | apply Kd.V_drewN | apply Kd.V_drew)); exact (Kd.V_mono (Kd.V_far (p := ⟨gb176, 1, none⟩) (Kd.V_far (p := ⟨gb176, 0, none⟩) (Kd.V_mono HO_201000.out (fun k_ hk => (⟨hk, hk.2.1⟩ : _ ∧ k_ ≠ gb176))) (fun _ hk => hk.2) (.slice Ao60 t194.length co60)) (fun _ hk => hk.2) (.int .i64 t197)) (fun _ h_ => h_.1))) hb); have n3_ := Aside0.mk (blk_below (g := gb176) (o := .cells #[.slice Ao60 t194.length co60, .int .i64 t197] 24 (0, 0)) (by (with_reducible repeat (first | refine blk_drewN ?_ _ | refine blk_drew ?_ | refine blk_alloc ?_ _)); refine blk_put (cs := #[.slice Ao60 t194.length co60, .int .i64 x177001_2]) ?_ 1 _ rfl; (with_reducible repeat (first | refine blk_drewN ?_ _ | refine blk_drew ?_ | refine blk_alloc ?_ _)); refine blk_put (cs := #[.slice Ao57 x177000_2.length co57, .int .i64 x177001_2]) ?_ 0 _ rfl; (with_reducible repeat (first | refine blk_drewN ?_ _ | refine blk_drew ?_ | refine blk_alloc ?_ _)); exact BK176.out) hb); have n4_ := Aside0.mk (blk_below (g := gb200) (o := .cells #[.slice Ao60 t194.length co60, .int .i64 t197] 24 (0, 0)) (by (with_reducible repeat (first | refine blk_drewN ?_ _ | refine blk_drew ?_ | refine blk_alloc ?_ _)); refine blk_far ?_ NB200_176.out _; (with_reducible repeat (first | refine blk_drewN ?_ _ | refine blk_drew ?_ | refine blk_alloc ?_ _)); refine blk_far ?_ NB200_176.out _; (with_reducible repeat (first | refine blk_drewN ?_ _ | refine blk_drew ?_ | refine blk_alloc ?_ _)); exact BK200.out) hb); have n5_ := Aside0.mk (below_step (by repeat (first | (with_reducible first | exact HB.out | apply below_alloc | apply pw_below_drewN | apply below_drew1 | refine below_set ?_ GE176.out | refine below_set ?_ GE200.out) | exact HB.out)) hb); clear HO204; clear HO_177000; clear HO_201000; clear BK176; clear BK200; clear HB; have HO204 := n0_; have HO_177000 := n1_; have HO_201000 := n2_; have BK176 := n3_; have BK200 := n4_; have HB := n5_; clear n0_ n1_ n2_ n3_ n4_ n5_; (try clear hb); (try clear hb2); (try clear hk); (try clear hi)))
                              go_roundg kj54
                              case measure => have := HJ2.out; have := HK2.out; have := HJ54.out; omega
                              case rel => exact ⟨(y202), (wrap64 (x8_2 + 1)), (t194), (t197), (.slice Ao60 t194.length co60), (by first | rfl | (simp; done) | (simp [*]; done)), H', ⟨by have := HJ2.out; have := HK2.out; have := HJ54.out; omega⟩, ⟨by (with_reducible repeat (first | apply Kd.Q_alloc | apply Kd.Q_drewN | apply Kd.Q_drew)); exact HO204.out⟩, ⟨by (with_reducible repeat (first | apply Kd.V_alloc | apply Kd.V_drewN | apply Kd.V_drew)); exact Kd.V_mono HO_201000.out (fun _ hk => ⟨hk.1, hk.2.1⟩)⟩, ⟨by (with_reducible repeat (first | refine blk_drewN ?_ _ | refine blk_drew ?_ | refine blk_alloc ?_ _)); exact BK176.out⟩, ⟨by repeat (first | (with_reducible first | exact HB.out | apply below_alloc | apply pw_below_drewN | apply below_drew1 | refine below_set ?_ GE176.out | refine below_set ?_ GE200.out) | exact HB.out)⟩⟩
                            · rw [if_neg c72] at H
                              exact absurd H (by simp)
                          · rw [if_neg c70] at H
                            exact absurd H (by simp)
                        · rw [if_neg c69] at H
                          have c69b0 : (t199 == 0) = false := beq_eq_false_iff_ne.mpr c69
                          have c69b1 : (t199 != 0) = true := bne_iff_ne.mpr c69
                          replace H := Option.bind_eq_some_iff.mp H
                          obtain ⟨t206, A790, H⟩ := H
                          replace H : (if t206 = (x7_2.length : Int) then (mortmainlaw02_QueueTurns.l0 kj54 l1 x7_2 (wrap64 (x8_2 + 1)) t194 t197) else (none)) = some r := H
                          have A79 := Aside0.mk A790
                          clear A790
                          by_cases c80 : t206 = (x7_2.length : Int)
                          · rw [if_pos c80] at H
                            have c80b0 : (t206 == (x7_2.length : Int)) = true := beq_iff_eq.mpr c80
                            have c80b1 : (t206 != (x7_2.length : Int)) = false := bne_eq_false_iff_eq.mpr c80
                            clear c80
                            have H' := Aside0.mk H
                            clear H
                            have hnb81 := NB200_176.out
                            have hnc81 := NB176_200.out
                            have hcz82_0 : wc.cell? ⟨gb200, 0, none⟩ = some (.slice Ao60 t194.length co60) := (blk_cell BK200.out 0).trans rfl
                            have hcz82_1 : wc.cell? ⟨gb200, 1, none⟩ = some (.int .i64 t197) := (blk_cell BK200.out 1).trans rfl
                            have hfz82_0 := blk_frozen BK200.out 0
                            have hfz82_1 := blk_frozen BK200.out 1
                            have hcz83_0 : wc.cell? ⟨gb176, 0, none⟩ = some (.slice Ao57 x177000_2.length co57) := (blk_cell BK176.out 0).trans rfl
                            have hcz83_1 : wc.cell? ⟨gb176, 1, none⟩ = some (.int .i64 x177001_2) := (blk_cell BK176.out 1).trans rfl
                            have hfz83_0 := blk_frozen BK176.out 0
                            have hfz83_1 := blk_frozen BK176.out 1
                            go_wp2_with (first | ((with_reducible refine gate_callee (f := 19) rfl ?_); refine goesL_ (some 88) rfl rfl Try.func19 (by kernel_rfl) rfl #[.agg #[.slice Ao60 t194.length co60, .int .i64 t197]] rfl (by (try simp only [List.map_toArray, List.map_cons, List.map_nil]); first | done | rfl | (simp only [List.length_drop, List.length_take]; rfl)) ?_; (with_reducible refine (queue_Len_int.calls _ _ t194 t197 t206 _ ?side1 ?side2 A79.out).mono ?_); (case side1 => refine (Kd.V_reads' (e := 3) (base := w.heap.size) (ok := fun k_ => (some k_ ≠ (u7 : Value).ownBlock ∧ (k_ ≠ gb176 ∧ k_ ≠ gb200))) (n := t194.length) (c := co60) ?_).2.2; exact (by (with_reducible repeat (first | apply Kd.V_alloc | apply Kd.V_drewN | apply Kd.V_drew)); exact (Kd.V_mono (Kd.V_far (p := ⟨gb176, 1, none⟩) (Kd.V_far (p := ⟨gb176, 0, none⟩) (Kd.V_mono HO_201000.out (fun k_ hk => (⟨hk, hk.2.1⟩ : _ ∧ k_ ≠ gb176))) (fun _ hk => hk.2) (.slice Ao60 t194.length co60)) (fun _ hk => hk.2) (.int .i64 t197)) (fun _ h_ => h_.1)))); (case side2 => exact (Kd.V_reads' HO_201000.out).2.1); rintro e w84 ⟨rfl, hb⟩; refine ⟨_, rfl, ?_⟩; have n0_ := Aside0.mk (Kd.Q_below (by (with_reducible repeat (first | apply Kd.Q_alloc | apply Kd.Q_drewN | apply Kd.Q_drew)); exact (Kd.Q_mono (Kd.Q_far (p := ⟨gb176, 1, none⟩) (Kd.Q_far (p := ⟨gb176, 0, none⟩) (Kd.Q_types HO_7.out BK176.out (by decide)) (fun _ hk => hk.2) (.slice Ao60 t194.length co60)) (fun _ hk => hk.2) (.int .i64 t197)) (fun _ h_ => h_.1))) hb); have n1_ := Aside0.mk (Kd.V_below (by (with_reducible repeat (first | apply Kd.V_alloc | apply Kd.V_drewN | apply Kd.V_drew)); exact (Kd.V_mono (Kd.V_far (p := ⟨gb176, 1, none⟩) (Kd.V_far (p := ⟨gb176, 0, none⟩) (Kd.V_mono HO_177000.out (fun k_ hk => (⟨hk, hk.2.1⟩ : _ ∧ k_ ≠ gb176))) (fun _ hk => hk.2) (.slice Ao60 t194.length co60)) (fun _ hk => hk.2) (.int .i64 t197)) (fun _ h_ => h_.1))) hb); have n2_ := Aside0.mk (Kd.V_below (by (with_reducible repeat (first | apply Kd.V_alloc | apply Kd.V_drewN | apply Kd.V_drew)); exact (Kd.V_mono (Kd.V_far (p := ⟨gb176, 1, none⟩) (Kd.V_far (p := ⟨gb176, 0, none⟩) (Kd.V_mono HO_201000.out (fun k_ hk => (⟨hk, hk.2.1⟩ : _ ∧ k_ ≠ gb176))) (fun _ hk => hk.2) (.slice Ao60 t194.length co60)) (fun _ hk => hk.2) (.int .i64 t197)) (fun _ h_ => h_.1))) hb); have n3_ := Aside0.mk (blk_below (g := gb176) (o := .cells #[.slice Ao60 t194.length co60, .int .i64 t197] 24 (0, 0)) (by (with_reducible repeat (first | refine blk_drewN ?_ _ | refine blk_drew ?_ | refine blk_alloc ?_ _)); refine blk_put (cs := #[.slice Ao60 t194.length co60, .int .i64 x177001_2]) ?_ 1 _ rfl; (with_reducible repeat (first | refine blk_drewN ?_ _ | refine blk_drew ?_ | refine blk_alloc ?_ _)); refine blk_put (cs := #[.slice Ao57 x177000_2.length co57, .int .i64 x177001_2]) ?_ 0 _ rfl; (with_reducible repeat (first | refine blk_drewN ?_ _ | refine blk_drew ?_ | refine blk_alloc ?_ _)); exact BK176.out) hb); have n4_ := Aside0.mk (blk_below (g := gb200) (o := .cells #[.slice Ao60 t194.length co60, .int .i64 t197] 24 (0, 0)) (by (with_reducible repeat (first | refine blk_drewN ?_ _ | refine blk_drew ?_ | refine blk_alloc ?_ _)); refine blk_far ?_ NB200_176.out _; (with_reducible repeat (first | refine blk_drewN ?_ _ | refine blk_drew ?_ | refine blk_alloc ?_ _)); refine blk_far ?_ NB200_176.out _; (with_reducible repeat (first | refine blk_drewN ?_ _ | refine blk_drew ?_ | refine blk_alloc ?_ _)); exact BK200.out) hb); have n5_ := Aside0.mk (below_step (by repeat (first | (with_reducible first | exact HB.out | apply below_alloc | apply pw_below_drewN | apply below_drew1 | refine below_set ?_ GE176.out | refine below_set ?_ GE200.out) | exact HB.out)) hb); clear HO_7; clear HO_177000; clear HO_201000; clear BK176; clear BK200; clear HB; have HO_7 := n0_; have HO_177000 := n1_; have HO_201000 := n2_; have BK176 := n3_; have BK200 := n4_; have HB := n5_; clear n0_ n1_ n2_ n3_ n4_ n5_; (try clear hb); (try clear hb2); (try clear hk); (try clear hi); obtain ⟨Ao85, co85, eo85, _⟩ := Kd.Q_slice HO_7.out; subst eo85))
                            go_roundg kj54
                            case measure => have := HJ2.out; have := HK2.out; have := HJ54.out; omega
                            case rel => exact ⟨(x7_2), (wrap64 (x8_2 + 1)), (t194), (t197), (.slice Ao60 t194.length co60), (by first | rfl | (simp; done) | (simp [*]; done)), H', ⟨by have := HJ2.out; have := HK2.out; have := HJ54.out; omega⟩, ⟨by (with_reducible repeat (first | apply Kd.Q_alloc | apply Kd.Q_drewN | apply Kd.Q_drew)); exact HO_7.out⟩, ⟨by (with_reducible repeat (first | apply Kd.V_alloc | apply Kd.V_drewN | apply Kd.V_drew)); exact Kd.V_mono HO_201000.out (fun _ hk => ⟨hk.1, hk.2.1⟩)⟩, ⟨by (with_reducible repeat (first | refine blk_drewN ?_ _ | refine blk_drew ?_ | refine blk_alloc ?_ _)); exact BK176.out⟩, ⟨by repeat (first | (with_reducible first | exact HB.out | apply below_alloc | apply pw_below_drewN | apply below_drew1 | refine below_set ?_ GE176.out | refine below_set ?_ GE200.out) | exact HB.out)⟩⟩
                          · rw [if_neg c80] at H
                            exact absurd H (by simp)
              · rw [if_neg c18] at H
                exact absurd H (by simp)
            · rw [if_neg c17] at H
              have c17b0 : decide (x8_2 < (l1.length : Int)) = false := decide_eq_false c17
              clear c17
              obtain rfl := Option.some.inj H
              go_wp2
              go_ret
              exact ⟨by first | rfl | (simp [errW_none, errW_some] <;> rfl) | (simp [*, errW_none, errW_some] <;> rfl), by repeat (first | (with_reducible first | exact HB.out | apply below_alloc | apply pw_below_drewN | apply below_drew1 | refine below_set ?_ GE176.out) | exact HB.out)⟩

/-- THE ONE PURE STATEMENT of mortmainlaw02_QueueTurns: yours. -/
def mortmainlaw02_QueueTurns.Pure : Prop := ∀ (a0 : Int) (l1 : List Int), (Lit.int .u8 a0).wf = true → l1.length ≤ maxLen → l1.length * 8 ≤ 140737488351232 → (∀ x ∈ l1, (Lit.int .i64 x).wf = true) → ∃ k, mortmainlaw02_QueueTurns.f k a0 l1 = some true
theorem mortmainlaw02_QueueTurns.walk (P : mortmainlaw02_QueueTurns.Pure) (a0 : Int) (a1 : Option Addr) (len1 cap1 : Nat) (z1 : List Int) (w : World) (w0 : (Lit.int .u8 a0).wf = true) (w1 : (a1 = none ∧ len1 = 0 ∧ cap1 = 0 ∧ z1 = []) ∨ ∃ x, a1 = some x ∧ len1 ≤ cap1 ∧ cap1 ≤ maxLen ∧ z1.length = cap1 ∧ (∀ i, i < z1.length → w.cell? (x.add i) = some (.int .i64 (z1.getD i 0))) ∧ ∀ n ∈ z1, (Lit.int .i64 n).wf = true) (y1 : len1 * 8 ≤ 140737488351232) :
    Calls Try.prog 8 #[.int .u8 a0, .slice a1 len1 cap1] w fun e w' => e = .returned (.bool true) ∧ Below w.heap.size w w' := by
  obtain ⟨l1, rfl, hr1, hm1, hw1, hc1⟩ := ReadsInt.ofRowC w1
  obtain ⟨k, h⟩ := P a0 l1 w0 hm1 y1 hw1
  refine (mortmainlaw02_QueueTurns.calls k a0 _ _ l1 true w (Kd.C_of_reads (d := (0 : Int)) (h1 := fun _ => rfl) hr1) hc1 h).mono ?_
  rintro e w' ⟨rfl, hd⟩
  exact ⟨rfl, hd⟩

end Go.Proofs.Ytoefbobjiepbeaa.MQueueTurns
