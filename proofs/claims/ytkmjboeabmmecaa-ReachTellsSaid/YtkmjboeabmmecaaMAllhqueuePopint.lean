/- The functions that the law reaches in plain Lean, and that the calls come to what these say. No condition. (By wip/myprint.py, this session's program over the kit's print.) -/
import Derived.Test.YtkmjboeabmmecaaMAllx18
namespace Go.Proofs.Ytkmjboeabmmecaa.MAll
open Go.RowKit Go.Proofs.YtkmjboeabmmecaaW.PrintWords Go.Proofs.YtkmjboeabmmecaaW.PrintLast Go.Proofs.YtkmjboeabmmecaaW.PrintMore
attribute [local go_sem] max2_int min2_int max_two min_two max_three min_three max_four min_four
set_option linter.unusedVariables false
set_option linter.unusedSimpArgs false
def queue_Pop_int.f (l0_0 : List Int) (a0_1 : Int) : Option (List Int × Int × Int × Int) := if l0_0.length = 0 then some (l0_0, a0_1, 0, 10) else some (l0_0.drop 1, a0_1, rd l0_0 0, 0)
theorem queue_Pop_int.drain1 (l : List Int) (c : Int) : queue_Drain_int.f l c 1 = some (l.drop 1, c, l.take 1) := by
  unfold queue_Drain_int.f queue_Queue_int_with.f
  cases l with
  | nil =>
    have e : mx 0 (mn 1 (([] : List Int).length : Int)) = 0 := by decide
    rw [e, if_pos (by decide), if_pos (by decide)]; rfl
  | cons x l =>
    have e : mx 0 (mn 1 ((x :: l).length : Int)) = 1 := by unfold mx mn; simp only [List.length_cons]; repeat' split
                                                           all_goals omega
    rw [e, if_pos (by decide), if_pos (by simp only [List.length_cons]; omega)]; rfl
def queue_Pop_int.T4 : Bool × List (List Nat × List Nat) := (true, [([], []), ([], []), ([1], [1]), ([2], [2]), ([], []), ([0, 0], [0]), ([3, 5, 0, 1, 2, 3, 5], [3]), ([4, 6, 0, 1, 2, 3, 4, 5, 6], [4])])
def queue_Pop_int.B4 : List Nat := [0, 0, 2, 6, 0, 1, 47, 127]
theorem queue_Pop_int.tab4 : rtab .any (opsOf Try.f113 4) = queue_Pop_int.T4 := by kernel_rfl
theorem queue_Pop_int.bits4 : waitsOk queue_Pop_int.T4.2 queue_Pop_int.B4 = true := by kernel_rfl
set_option maxHeartbeats 8000000 in
set_option maxRecDepth 100000 in
theorem queue_Pop_int.calls (P0_0_ : Nat → Prop) (A0_0 : Option Addr) (c0_0 : Nat) (l0_0 : List Int) (a0_1 : Int) (r1 : List Int) (r2 : Int) (r3 : Int) (r4 : Int) (w : World) (hs0_0 : Kd.V (Kd.int .i64) 3 w w.heap.size (fun k_ => P0_0_ k_) (.slice A0_0 l0_0.length c0_0) l0_0) (h : queue_Pop_int.f l0_0 a0_1 = some (r1, r2, r3, r4)) :
    Calls Try.prog 113 #[.agg #[.slice A0_0 l0_0.length c0_0, .int .i64 a0_1]] w fun e w' => ∃ v0_ : Value, e = .returned (.tuple #[.agg #[v0_, .int .i64 r2], .int .i64 r3, .int .i64 r4]) ∧ Kd.V (Kd.int .i64) 3 w' w.heap.size (fun k_ => (P0_0_ k_ ∨ w.heap.size ≤ k_)) v0_ r1 ∧ Below w.heap.size w w' := by
  unfold queue_Pop_int.f at h
  have HV := Aside0.mk hs0_0
  have HVW := Aside0.mk (show Kd.V (Kd.int .i64) 3 ((w.alloc (.cells #[.slice A0_0 l0_0.length c0_0, .int .i64 a0_1] 134)).alloc (.cells #[.slice none 0 0, .int .i64 0] 134)) ((w.alloc (.cells #[.slice A0_0 l0_0.length c0_0, .int .i64 a0_1] 134)).alloc (.cells #[.slice none 0 0, .int .i64 0] 134)).heap.size (fun k_ => P0_0_ k_ ∧ k_ < w.heap.size) (.slice A0_0 l0_0.length c0_0) l0_0 from Kd.V_alloc (Kd.V_alloc (Kd.V_bound HV.out) _) _)
  have HB := Aside0.mk (show Below w.heap.size w ((w.alloc (.cells #[.slice A0_0 l0_0.length c0_0, .int .i64 a0_1] 134)).alloc (.cells #[.slice none 0 0, .int .i64 0] 134)) from (((Below.refl _ _).alloc (Nat.le_refl _) _).alloc (by simp) _))
  have HC := Aside0.mk (show ((w.alloc (.cells #[.slice A0_0 l0_0.length c0_0, .int .i64 a0_1] 134)).alloc (.cells #[.slice none 0 0, .int .i64 0] 134)).heap[w.heap.size]? = some (.cells #[.slice A0_0 l0_0.length c0_0, .int .i64 a0_1] 134 (0, 0)) from blk_alloc (blk_new _ _) _)
  have HG := Aside0.mk (show ((w.alloc (.cells #[.slice A0_0 l0_0.length c0_0, .int .i64 a0_1] 134)).alloc (.cells #[.slice none 0 0, .int .i64 0] 134)).heap[w.heap.size + 1]? = some (.cells #[.slice none 0 0, .int .i64 0] 134 (0, 0)) from (by have h2 := blk_new (w.alloc (.cells #[.slice A0_0 l0_0.length c0_0, .int .i64 a0_1] 134)) (.cells #[.slice none 0 0, .int .i64 0] 134); rw [World.size_alloc] at h2; exact h2))
  have HD := Aside0.mk (queue_Pop_int.drain1 l0_0 a0_1)
  have HP : Aside0 (∀ k, ((P0_0_ k ∧ k < w.heap.size) ∨ ((w.alloc (.cells #[.slice A0_0 l0_0.length c0_0, .int .i64 a0_1] 134)).alloc (.cells #[.slice none 0 0, .int .i64 0] 134)).heap.size ≤ k) → k ≠ w.heap.size + 1 ∧ (P0_0_ k ∨ w.heap.size ≤ k)) := by
    refine ⟨fun k hk => ?_⟩
    have e : ((w.alloc (.cells #[.slice A0_0 l0_0.length c0_0, .int .i64 a0_1] 134)).alloc (.cells #[.slice none 0 0, .int .i64 0] 134)).heap.size = w.heap.size + 2 := by simp
    rcases hk with hk | hk
    · exact ⟨by have := hk.2; omega, .inl hk.1⟩
    · exact ⟨by omega, .inr (by omega)⟩
  clear hs0_0
  by_cases c3 : l0_0.length = 0
  · rw [if_pos c3] at h
    simp only [Option.some.injEq, Prod.mk.injEq] at h
    obtain ⟨rfl, rfl, rfl, rfl⟩ := h
    have h30 : (l0_0.take 1).length = 0 := by rw [List.length_take]; omega
    have H30 := Aside0.mk h30
    clear c3 h30
    go_enter Try.func113, Try.ntmps113
    go_wp2_with (go_at_call 135; (with_reducible refine (queue_Drain_int.calls _ A0_0 c0_0 l0_0 a0_1 1 _ _ _ _ HVW.out HD.out).mono ?_); rintro e w1 ⟨v0, v2, rfl, hv0, hv2, hb⟩; obtain ⟨A0, c0, rfl⟩ := Kd.V_slice hv0; obtain ⟨A2, c2, rfl⟩ := Kd.V_slice hv2; rw [H30.out] at *; have HVa := Aside0.mk hv0; have HVq := Aside0.mk (Kd.V_below HVW.out hb); have HB1 := Aside0.mk (HB.out.trans (hb.mono HB.out.size)); have HG1 := Aside0.mk (blk_below HG.out hb); have HC1 := Aside0.mk (blk_below HC.out hb); clear hv0 hv2 hb; have q0 : w1.cell? ⟨w.heap.size + 1, 0, none⟩ = some (.slice none 0 0) := (blk_cell HG1.out 0).trans rfl; have q1 : w1.cell? ⟨w.heap.size + 1, 1, none⟩ = some (.int .i64 0) := (blk_cell HG1.out 1).trans rfl; have q2 := blk_frozen HG1.out 0; have q3 := blk_frozen HG1.out 1; have q4 : w1.cell? ⟨w.heap.size, 0, none⟩ = some (.slice A0_0 l0_0.length c0_0) := (blk_cell HC1.out 0).trans rfl; have q5 : w1.cell? ⟨w.heap.size, 1, none⟩ = some (.int .i64 a0_1) := (blk_cell HC1.out 1).trans rfl)
    refine bodyPost_ret (results_ctt rfl _ _ (w.heap.size + 1) 134 #[.slice A0_0 l0_0.length c0_0, .int .i64 a0_1] (0, 0) _ rfl (by refine blk_put (cs := #[.slice A0_0 l0_0.length c0_0, .int .i64 a0_1]) ?_ 1 _ rfl; refine blk_put (cs := #[.slice A0 (l0_0.length - 1) c0, .int .i64 a0_1]) ?_ 0 _ rfl; refine blk_put (cs := #[.slice A0 (l0_0.length - 1) c0, .int .i64 0]) ?_ 1 _ rfl; refine blk_put (cs := #[.slice none 0 0, .int .i64 0]) ?_ 0 _ rfl; exact HG1.out) Try.underlying134 rfl (by kernel_rfl)) rfl ?_
    refine ⟨_, rfl, Kd.V_mono (Kd.V_far (p := ⟨w.heap.size + 1, 1, none⟩) (Kd.V_far (p := ⟨w.heap.size + 1, 0, none⟩) (Kd.V_far (p := ⟨w.heap.size + 1, 1, none⟩) (Kd.V_far (p := ⟨w.heap.size + 1, 0, none⟩) HVq.out (fun k hk => ?_) _) (fun k hk => ?_) _) (fun k hk => ?_) _) (fun k hk => ?_) _) (fun k hk => .inl hk.1), below_set (below_set (below_set (below_set HB1.out (by omega)) (by omega)) (by omega)) (by omega)⟩
    all_goals (have := hk.2; show k ≠ w.heap.size + 1; omega)
  · rw [if_neg c3] at h
    simp only [Option.some.injEq, Prod.mk.injEq] at h
    obtain ⟨rfl, rfl, rfl, rfl⟩ := h
    have H34 := Aside0.mk (show 0 < l0_0.length by omega)
    have H31 := Aside0.mk (show (l0_0.take 1).length = 1 by rw [List.length_take]; omega)
    have H32 := Aside0.mk (show rd (l0_0.take 1) 0 = rd l0_0 0 by unfold rd; cases l0_0 with | nil => rfl | cons x l => rfl)
    clear c3
    go_enter Try.func113, Try.ntmps113
    go_wp2_with (go_at_call 135; (with_reducible refine (queue_Drain_int.calls _ A0_0 c0_0 l0_0 a0_1 1 _ _ _ _ HVW.out HD.out).mono ?_); rintro e w1 ⟨v0, v2, rfl, hv0, hv2, hb⟩; obtain ⟨A0, c0, rfl⟩ := Kd.V_slice hv0; obtain ⟨A2, c2, rfl⟩ := Kd.V_slice hv2; rw [H31.out] at *; have HVa := Aside0.mk (Kd.V_mono hv0 HP.out); have HV2 := Aside0.mk (Kd.V_mono hv2 HP.out); have HVq := Aside0.mk (Kd.V_below HVW.out hb); have HB1 := Aside0.mk (HB.out.trans (hb.mono HB.out.size)); have HG1 := Aside0.mk (blk_below HG.out hb); have HC1 := Aside0.mk (blk_below HC.out hb); clear hv0 hv2 hb; have q0 : w1.cell? ⟨w.heap.size + 1, 0, none⟩ = some (.slice none 0 0) := (blk_cell HG1.out 0).trans rfl; have q1 : w1.cell? ⟨w.heap.size + 1, 1, none⟩ = some (.int .i64 0) := (blk_cell HG1.out 1).trans rfl; have q2 := blk_frozen HG1.out 0; have q3 := blk_frozen HG1.out 1; have q4 : w1.cell? ⟨w.heap.size, 0, none⟩ = some (.slice A0_0 l0_0.length c0_0) := (blk_cell HC1.out 0).trans rfl; have q5 : w1.cell? ⟨w.heap.size, 1, none⟩ = some (.int .i64 a0_1) := (blk_cell HC1.out 1).trans rfl)
    rw [List.length_drop] at *
    have HV3 := Aside0.mk (Kd.V_drew (Kd.V_far (p := ⟨w.heap.size + 1, 1, none⟩) (Kd.V_far (p := ⟨w.heap.size + 1, 0, none⟩) HV2.out (fun k hk => hk.1) (.slice A0 (l0_0.length - 1) c0)) (fun k hk => hk.1) (.int .i64 a0_1)))
    have HVb := Aside0.mk (Kd.V_drew (Kd.V_far (p := ⟨w.heap.size + 1, 1, none⟩) (Kd.V_far (p := ⟨w.heap.size + 1, 0, none⟩) HVa.out (fun k hk => hk.1) (.slice A0 (l0_0.length - 1) c0)) (fun k hk => hk.1) (.int .i64 a0_1)))
    have HB2 := Aside0.mk (below_drew1 (below_set (j := 1) (v := .int .i64 a0_1) (below_set (j := 0) (v := .slice A0 (l0_0.length - 1) c0) HB1.out (show w.heap.size ≤ w.heap.size + 1 by omega)) (show w.heap.size ≤ w.heap.size + 1 by omega)))
    have HG2 := Aside0.mk (blk_drew (blk_put (cs := #[.slice A0 (l0_0.length - 1) c0, .int .i64 0]) (cs' := #[.slice A0 (l0_0.length - 1) c0, .int .i64 a0_1]) (blk_put (cs := #[.slice none 0 0, .int .i64 0]) HG1.out 0 (.slice A0 (l0_0.length - 1) c0) rfl) 1 (.int .i64 a0_1) rfl))
    obtain ⟨ad, e, hc⟩ := Kd.at_int (Kd.V_reads' HV3.out).2.2 0 (by decide) (by rw [List.length_take]; have := H34.out; omega)
    cases e
    rw [H32.out] at hc
    rw [show ad.add (Int.toNat 0) = ad from rfl] at hc
    have HC2 := Aside0.mk hc
    clear hc q0 q1 q2 q3 q4 q5
    refine start_ (n := 8) (S := fun w' => w'.cell? ⟨w.heap.size + 1, 0, none⟩ = some (.slice A0 (l0_0.length - 1) c0) ∧ w'.cell? ⟨w.heap.size + 1, 1, none⟩ = some (.int .i64 a0_1) ∧ w'.cell? ad = some (.int .i64 (rd l0_0 0))) (ds := []) (bA 8 0) (by kernel_rfl) rfl rfl ?_ (fun hHeld => ?_)
    · exact ⟨(blk_cell HG2.out 0).trans rfl, (blk_cell HG2.out 1).trans rfl, HC2.out⟩
    refine with_tabW queue_Pop_int.tab4 queue_Pop_int.bits4 (fun HT_ HW_ => ?_)
    generalize ((w1.setCell ⟨w.heap.size + 1, 0, none⟩ (.slice A0 (l0_0.length - 1) c0)).setCell ⟨w.heap.size + 1, 1, none⟩ (.int .i64 a0_1)).drew = W0 at HV3 HVb HB2 HG2 HC2 hHeld ⊢
    refine pure_ (i := 1) (N := some 17) (v := ?_) (a' := ?_) (bA 8 2) rfl rfl (an_ HT_.out) (fun _ _ _ h => h) (Or.inl ⟨by rfl, ?_⟩) ?_ ?_
    rotate_left
    · intro w'
      go_simp
      with_reducible rfl
    rotate_left
    · simp only [Act.put, q1, q2, q3, i64_w, i32_w]
      rfl
    refine pure_ (i := 2) (N := some 18) (v := ?_) (a' := ?_) (bA 8 6) rfl rfl (an_ HT_.out) (fun _ _ _ h => h) (Or.inl ⟨by rfl, ?_⟩) ?_ ?_
    rotate_left
    · intro w'
      go_simp
      with_reducible rfl
    rotate_left
    · simp only [Act.put, q1, q2, q3, i64_w, i32_w]
      rfl
    refine pure_ (i := 4) (N := some 20) (v := ?_) (a' := ?_) (bA 8 22) rfl rfl (an_ HT_.out) (fun _ _ _ h => h) (Or.inl ⟨by rfl, ?_⟩) ?_ ?_
    rotate_left
    · intro w'
      go_simp
      with_reducible rfl
    rotate_left
    · simp only [Act.put, q1, q2, q3, i64_w, i32_w]
      rfl
    refine take_ (i := 0) (N := some 16) (v := ?_) (a' := ?_) (bA 8 23) rfl rfl (tw_ HT_.out HW_.out) (fun _ _ _ h => h) (Or.inl ⟨by rfl, ?_⟩) hHeld ?_ ?_
    rotate_left
    · rintro w' ⟨s0, s1, s2⟩
      try simp only [Int.toNat_natCast] at s0 s1 s2
      go_simp
      with_reducible rfl
    rotate_left
    · simp only [Act.put, q1, q2, q3, i64_w, i32_w]
      rfl
    refine take_ (i := 3) (N := some 19) (v := ?_) (a' := ?_) (bA 8 31) rfl rfl (tw_ HT_.out HW_.out) (fun _ _ _ h => h) (Or.inl ⟨by rfl, ?_⟩) hHeld ?_ ?_
    rotate_left
    · rintro w' ⟨s0, s1, s2⟩
      try simp only [Int.toNat_natCast] at s0 s1 s2
      go_simp
      with_reducible rfl
    rotate_left
    · simp only [Act.put, q1, q2, q3, i64_w, i32_w]
      rfl
    refine one_ (i := 5) (N := none) (bA 8 63) rfl rfl (one_of HT_.out (by kernel_rfl)) (by decide) (fun K hK => ?_)
    have q0 : W0.cell? ⟨w.heap.size + 1, 0, none⟩ = some (.slice A0 (l0_0.length - 1) c0) := (blk_cell HG2.out 0).trans rfl
    have q1 : W0.cell? ⟨w.heap.size + 1, 1, none⟩ = some (.int .i64 a0_1) := (blk_cell HG2.out 1).trans rfl
    have q2 := blk_frozen HG2.out 0
    have q3 := blk_frozen HG2.out 1
    refine skip_ (w1 := ?_) (by rfl) rfl ?_ ?_
    rotate_left
    · go_simp
      rfl
    have HG3 := Aside0.mk (blk_put (cs := #[.slice A0 (l0_0.length - 1) c0, .int .i64 a0_1]) (cs' := #[.slice A0 (l0_0.length - 1) c0, .int .i64 a0_1]) (blk_put (cs := #[.slice A0 (l0_0.length - 1) c0, .int .i64 a0_1]) HG2.out 0 (.slice A0 (l0_0.length - 1) c0) rfl) 1 (.int .i64 a0_1) rfl)
    have HV4 := Aside0.mk (Kd.V_far (p := ⟨w.heap.size + 1, 1, none⟩) (Kd.V_far (p := ⟨w.heap.size + 1, 0, none⟩) HV3.out (fun k hk => hk.1) (.slice A0 (l0_0.length - 1) c0)) (fun k hk => hk.1) (.int .i64 a0_1))
    obtain ⟨ad2, e2, hc2⟩ := Kd.at_int (Kd.V_reads' (n := 1) HV4.out).2.2 0 (by decide) (by rw [List.length_take]; have := H34.out; omega)
    cases e2
    rw [H32.out] at hc2
    rw [show ad.add (Int.toNat 0) = ad from rfl] at hc2
    refine hK.out _ _ ⟨(blk_cell HG3.out 0).trans rfl, (blk_cell HG3.out 1).trans rfl, hc2⟩ (fun hHeld4 => ?_)
    clear hK K
    refine pure_ (i := 6) (N := some 3) (v := ?_) (a' := ?_) (bA 8 127) rfl rfl (an_ HT_.out) (fun _ _ _ h => h) (Or.inl ⟨by rfl, ?_⟩) ?_ ?_
    rotate_left
    · intro w'
      go_simp
      with_reducible rfl
    rotate_left
    · simp only [Act.put, q1, q2, q3, i64_w, i32_w]
      rfl
    refine pure_ (i := 7) (N := some 4) (v := ?_) (a' := ?_) (bA 8 255) rfl rfl (an_ HT_.out) (fun _ _ _ h => h) (Or.inl ⟨by rfl, ?_⟩) ?_ ?_
    rotate_left
    · intro w'
      go_simp
      with_reducible rfl
    rotate_left
    · simp only [Act.put, q1, q2, q3, i64_w, i32_w]
      rfl
    refine done_ (done_of HT_.out (by kernel_rfl)) ?_
    try go_wp2
    refine bodyPost_ret (results_ctt rfl _ _ (w.heap.size + 1) 134 #[.slice A0 (l0_0.length - 1) c0, .int .i64 a0_1] (0, 0) _ rfl HG3.out Try.underlying134 rfl (by kernel_rfl)) rfl ?_
    exact ⟨_, rfl, Kd.V_mono (Kd.V_far (p := ⟨w.heap.size + 1, 1, none⟩) (Kd.V_far (p := ⟨w.heap.size + 1, 0, none⟩) HVb.out (fun k hk => hk.1) _) (fun k hk => hk.1) _) (fun k hk => hk.2), below_set (below_set HB2.out (by omega)) (by omega)⟩
end Go.Proofs.Ytkmjboeabmmecaa.MAll
