/- The functions that the law reaches in plain Lean, and that the calls come to what these say. No condition. (By wip/myprint.py, this session's program over the kit's print.) -/
import Derived.Test.YtkmjboeabmmecaaMAllx16
namespace Go.Proofs.Ytkmjboeabmmecaa.MAll
open Go.RowKit Go.Proofs.YtkmjboeabmmecaaW.PrintWords Go.Proofs.YtkmjboeabmmecaaW.PrintLast Go.Proofs.YtkmjboeabmmecaaW.PrintMore
attribute [local go_sem] max2_int min2_int max_two min_two max_three min_three max_four min_four
set_option linter.unusedVariables false
set_option linter.unusedSimpArgs false
def queue_Push_int.f (l0_0 : List Int) (a0_1 : Int) (a1 : Int) : Option (List Int × Int × Int) := if (l0_0.length : Int) ≥ a0_1 then some (l0_0, a0_1, 4) else if l0_0.length < 1000000 then some (l0_0 ++ [a1], a0_1, 0) else none
def queue_Push_int.T4 : Bool × List (List Nat × List Nat) := (true, [([], []), ([], []), ([1], [1]), ([], []), ([], []), ([2, 3, 4], [2, 3, 4]), ([], []), ([6], [6]), ([5, 7], [5, 7]), ([0, 8, 8], [0, 8]), ([9, 9, 0, 1, 2, 3, 4, 5, 6, 7, 8, 9], [9]), ([10, 0, 1, 2, 3, 4, 5, 6, 7, 8, 9, 10], [])])
def queue_Push_int.B4 : List Nat := [0, 0, 2, 0, 0, 30, 0, 64, 254, 511, 1023, 2047]
theorem queue_Push_int.tab4 : rtab .any (opsOf Try.f111 4) = queue_Push_int.T4 := by kernel_rfl
theorem queue_Push_int.bits4 : waitsOk queue_Push_int.T4.2 queue_Push_int.B4 = true := by kernel_rfl
set_option maxHeartbeats 8000000 in
set_option maxRecDepth 100000 in
theorem queue_Push_int.calls (P0_0_ : Nat → Prop) (A0_0 : Option Addr) (c0_0 : Nat) (l0_0 : List Int) (a0_1 : Int) (a1 : Int) (r1 : List Int) (r2 : Int) (r3 : Int) (w : World) (hs0_0 : Kd.V (Kd.int .i64) 3 w w.heap.size (fun k_ => P0_0_ k_) (.slice A0_0 l0_0.length c0_0) l0_0) (h : queue_Push_int.f l0_0 a0_1 a1 = some (r1, r2, r3)) :
    Calls Try.prog 111 #[.agg #[.slice A0_0 l0_0.length c0_0, .int .i64 a0_1], .int .i64 a1] w fun e w' => ∃ v0_ : Value, e = .returned (.tuple #[.agg #[v0_, .int .i64 r2], .int .i64 r3]) ∧ Kd.V (Kd.int .i64) 3 w' w.heap.size (fun k_ => (P0_0_ k_ ∨ w.heap.size ≤ k_)) v0_ r1 ∧ Below w.heap.size w w' := by
  unfold queue_Push_int.f at h
  by_cases c3 : (l0_0.length : Int) ≥ a0_1
  · rw [if_pos c3] at h
    have c3b0 : decide (a0_1 ≤ (l0_0.length : Int)) = true := decide_eq_true c3
    clear c3
    simp only [Option.some.injEq, Prod.mk.injEq] at h
    obtain ⟨rfl, rfl, rfl⟩ := h
    have HV := Aside0.mk hs0_0
    clear hs0_0
    go_enter Try.func111, Try.ntmps111
    go_wp2
    exact bodyPost_ret (v := .tuple #[.agg #[.slice A0_0 l0_0.length c0_0, .int .i64 a0_1], .int .i64 4]) (by simp [results, Try.results111, go_sem]) rfl ⟨_, rfl, Kd.V_mono (Kd.V_alloc (Kd.V_alloc HV.out _) _) (fun _ hk => .inl hk), ((Below.refl _ _).alloc (Nat.le_refl _) _).alloc (by simp) _⟩
  · rw [if_neg c3] at h
    have c3b0 : decide (a0_1 ≤ (l0_0.length : Int)) = false := decide_eq_false c3
    clear c3
    by_cases c4 : l0_0.length < 1000000
    · rw [if_pos c4] at h
      simp only [Option.some.injEq, Prod.mk.injEq] at h
      obtain ⟨rfl, rfl, rfl⟩ := h
      have HV := Aside0.mk hs0_0
      have hcap := (Kd.V_at hs0_0).2.1
      clear hs0_0
      go_enter Try.func111, Try.ntmps111
      go_wp2
      have HB := Aside0.mk (show Below w.heap.size w ((w.alloc (.cells #[.slice A0_0 l0_0.length c0_0, .int .i64 a0_1] 134)).alloc (.cells #[.slice none 0 0, .int .i64 0] 134)).drew from below_drew1 (((Below.refl _ _).alloc (Nat.le_refl _) _).alloc (by simp) _))
      have HVW := Aside0.mk (show Kd.V (Kd.int .i64) 3 ((w.alloc (.cells #[.slice A0_0 l0_0.length c0_0, .int .i64 a0_1] 134)).alloc (.cells #[.slice none 0 0, .int .i64 0] 134)).drew w.heap.size (fun k_ => P0_0_ k_ ∧ k_ < w.heap.size) (.slice A0_0 l0_0.length c0_0) l0_0 from Kd.V_drew (Kd.V_alloc (Kd.V_alloc (Kd.V_bound HV.out) _) _))
      have HZ := Aside0.mk (show w.heap.size + 2 = ((w.alloc (.cells #[.slice A0_0 l0_0.length c0_0, .int .i64 a0_1] 134)).alloc (.cells #[.slice none 0 0, .int .i64 0] 134)).drew.heap.size by simp)
      have HG := Aside0.mk (show ((w.alloc (.cells #[.slice A0_0 l0_0.length c0_0, .int .i64 a0_1] 134)).alloc (.cells #[.slice none 0 0, .int .i64 0] 134)).drew.heap[w.heap.size + 1]? = some (.cells #[.slice none 0 0, .int .i64 0] 134 (0, 0)) from blk_drew (by have h2 := blk_new (w.alloc (.cells #[.slice A0_0 l0_0.length c0_0, .int .i64 a0_1] 134)) (.cells #[.slice none 0 0, .int .i64 0] 134); rw [World.size_alloc] at h2; exact h2))
      refine start_ (n := 12) (S := fun w' => w'.cell? ⟨w.heap.size, 0, none⟩ = some (.slice A0_0 l0_0.length c0_0) ∧ w'.cell? ⟨w.heap.size, 1, none⟩ = some (.int .i64 a0_1)) (ds := []) (bA 12 0) (by kernel_rfl) rfl rfl ?_ (fun hHeld => ?_)
      · constructor <;> go_simp
      refine with_tabW queue_Push_int.tab4 queue_Push_int.bits4 (fun HT_ HW_ => ?_)
      generalize ((w.alloc (.cells #[.slice A0_0 l0_0.length c0_0, .int .i64 a0_1] 134)).alloc (.cells #[.slice none 0 0, .int .i64 0] 134)).drew = W0 at HB HVW HZ HG hHeld ⊢
      refine pure_ (i := 1) (N := some 16) (v := ?_) (a' := ?_) (bA 12 2) rfl rfl (an_ HT_.out) (fun _ _ _ h => h) (Or.inl ⟨by rfl, ?_⟩) ?_ ?_
      rotate_left
      · intro w'
        go_simp
        with_reducible rfl
      rotate_left
      · simp only [Act.put, q1, q2, q3, i64_w, i32_w]
        rfl
      refine pure_ (i := 3) (N := some 18) (v := ?_) (a' := ?_) (bA 12 10) rfl rfl (an_ HT_.out) (fun _ _ _ h => h) (Or.inl ⟨by rfl, ?_⟩) ?_ ?_
      rotate_left
      · intro w'
        go_simp
        with_reducible rfl
      rotate_left
      · simp only [Act.put, q1, q2, q3, i64_w, i32_w]
        rfl
      refine pure_ (i := 4) (N := some 19) (v := ?_) (a' := ?_) (bA 12 26) rfl rfl (an_ HT_.out) (fun _ _ _ h => h) (Or.inl ⟨by rfl, ?_⟩) ?_ ?_
      rotate_left
      · intro w'
        go_simp
        with_reducible rfl
      rotate_left
      · simp only [Act.put, q1, q2, q3, i64_w, i32_w]
        rfl
      refine pure_ (i := 6) (N := some 21) (v := ?_) (a' := ?_) (bA 12 90) rfl rfl (an_ HT_.out) (fun _ _ _ h => h) (Or.inl ⟨by rfl, ?_⟩) ?_ ?_
      rotate_left
      · intro w'
        go_simp
        with_reducible rfl
      rotate_left
      · simp only [Act.put, q1, q2, q3, i64_w, i32_w]
        rfl
      refine take_ (i := 0) (N := some 15) (v := ?_) (a' := ?_) (bA 12 91) rfl rfl (tw_ HT_.out HW_.out) (fun _ _ _ h => h) (Or.inl ⟨by rfl, ?_⟩) hHeld ?_ ?_
      rotate_left
      · rintro w' ⟨s0, s1⟩
        go_simp
        with_reducible rfl
      rotate_left
      · simp only [Act.put, q1, q2, q3, i64_w, i32_w]
        rfl
      refine take_ (i := 2) (N := some 17) (v := ?_) (a' := ?_) (bA 12 95) rfl rfl (tw_ HT_.out HW_.out) (fun _ _ _ h => h) (Or.inl ⟨by rfl, ?_⟩) hHeld ?_ ?_
      rotate_left
      · rintro w' ⟨s0, s1⟩
        go_simp
        with_reducible rfl
      rotate_left
      · simp only [Act.put, q1, q2, q3, i64_w, i32_w]
        rfl
      refine pure_ (i := 5) (N := some 20) (v := ?_) (a' := ?_) (bA 12 127) rfl rfl (an_ HT_.out) (fun _ _ _ h => h) (Or.inl ⟨by rfl, ?_⟩) ?_ ?_
      rotate_left
      · intro w'
        go_simp
        with_reducible rfl
      rotate_left
      · simp only [Act.put, q1, q2, q3, i64_w, i32_w]
        rfl
      refine one_ (i := 7) (N := some 22) (bA 12 255) rfl rfl (one_of HT_.out (by kernel_rfl)) (by decide) (fun K hK => ?_)
      refine Kd.R_lit_step (Kd.int .i64) _ 3 ?hg (N := 22) ?hd (xs := ([a1] : List Int)) (inner := [.int .i64 a1]) (ok := fun _ => True) (okp := fun _ => True) ?hr ?hp (fun _ hk => hk) trivial (Below.refl _ _) (Nat.le_refl _) (by simp) ?_; (case hd => rfl); (case hg => rfl); (case hr => first | (go_simp; done) | (go_simp; rfl)); (case hp => exact (Reps.one (show Kd.M (Kd.int .i64) _ _ _ a1 [.int .i64 a1] from rfl) (Reps.none _ _)))
      intro vx W1 hox hb1 _ _
      have lt0 : w.heap.size < W0.heap.size ∧ w.heap.size + 1 < W0.heap.size := by have := HZ.out; omega
      refine hK.out _ _ ⟨(hb1.cell (p := ⟨w.heap.size, 0, none⟩) lt0.1).trans hHeld.1, (hb1.cell (p := ⟨w.heap.size, 1, none⟩) lt0.1).trans hHeld.2⟩ (fun hHeld1 => ?_)
      clear hK K
      have HV1 := Aside0.mk (Kd.V_below HVW.out hb1)
      have HB1 := Aside0.mk (HB.out.trans (hb1.mono HB.out.size))
      have HG1 := Aside0.mk ((hb1.block _ lt0.2).trans HG.out)
      have HZ1 := Aside0.mk (show w.heap.size + 1 < W1.heap.size from Nat.lt_of_lt_of_le lt0.2 hb1.size)
      clear hHeld HVW HB HG hb1
      obtain ⟨Ax, cx, rfl, hcx, hCx⟩ := Kd.R_reads hox
      obtain ⟨ad, rfl, _⟩ := hCx.2.2 (by simp)
      have HCX := Aside0.mk hCx
      clear hCx hox hcx lt0
      refine norm_ (a' := ?_) ?_ ?_
      rotate_left
      · show Act.put _ (some 22) _ = _
        simp only [Act.put, q1, q2, q3, i64_w, i32_w]
        rfl
      refine one_ (i := 8) (N := some 23) (bA 12 511) rfl rfl (one_of HT_.out (by kernel_rfl)) (by decide) (fun K hK => ?_)
      refine Steps.append_full_step (Kd.int .i64) (Steps.flat_int _) 3 27 (.tmp 20) (.tmp 22) (.int .i64 0) 8 rfl rfl Try.underlying27 info3 rfl (by decide) A0_0 l0_0 [a1] rfl (Kd.V_reads' HV1.out).2.2 ad 1 cx rfl HCX.out (fun _ _ h => h) (by decide) ?cA ?cB ?cC (fun v2 W2 ho2 hg2 => ?_)
      case cA =>
        rintro rfl
        rcases Nat.eq_zero_or_pos l0_0.length with h0 | h0
        · exact List.eq_nil_of_length_eq_zero h0
        · obtain ⟨_, h1, _⟩ := (Kd.V_reads' HV1.out).2.2.2.2 h0
          cases h1
      case cB => unfold maxLen; omega
      case cC => omega
      have hb2 : Below W1.heap.size W1 W2 := (Below.refl _ _).grown hg2 (Nat.le_refl _) (fun _ h => by cases h)
      have lt1 := HZ1.out
      refine hK.out _ _ ⟨(hb2.cell (p := ⟨w.heap.size, 0, none⟩) (by show w.heap.size < _; omega)).trans hHeld1.1, (hb2.cell (p := ⟨w.heap.size, 1, none⟩) (by show w.heap.size < _; omega)).trans hHeld1.2⟩ (fun hHeld2 => ?_)
      clear hK K
      have HV2 := Aside0.mk (Kd.V_below HV1.out hb2)
      have HB2 := Aside0.mk (HB1.out.trans (hb2.mono HB1.out.size))
      have HG2 := Aside0.mk ((hb2.block _ lt1).trans HG1.out)
      have HS2 := Aside0.mk hb2.size
      obtain ⟨A2, c2, rfl⟩ := Kd.R_slice ho2
      have HO2 := Aside0.mk ho2
      clear hHeld1 HV1 HB1 HG1 hb2 hg2 ho2 HCX lt1
      refine norm_ (a' := ?_) ?_ ?_
      rotate_left
      · show Act.put _ (some 23) _ = _
        simp only [Act.put, q1, q2, q3, i64_w, i32_w]
        rfl
      refine one_ (i := 9) (N := some 24) (bA 12 1023) rfl rfl (one_of HT_.out (by kernel_rfl)) (by decide) (fun K hK => ?_)
      refine call_ 134 #[.agg #[.slice A0_0 l0_0.length c0_0, .int .i64 a0_1], .slice A2 (l0_0 ++ [a1]).length c2] (by rfl) rfl (by go_simp) ?_
      refine (queue_Queue_int_with.calls A0_0 c0_0 l0_0 a0_1 (fun k => W1.heap.size ≤ k) A2 c2 (l0_0 ++ [a1]) _ _ W2 (Kd.V_reads' HV2.out).2.2 (Kd.V_reads' HV2.out).2.1 (Kd.R_V HO2.out) rfl).mono ?_
      rintro e W3 ⟨v3, rfl, hv3, hb3⟩
      refine ⟨_, rfl, ?_⟩
      have lt2 : w.heap.size + 1 < W2.heap.size := by have := HZ1.out; have := HS2.out; omega
      refine hK.out _ _ ⟨(hb3.cell (p := ⟨w.heap.size, 0, none⟩) (by show w.heap.size < _; omega)).trans hHeld2.1, (hb3.cell (p := ⟨w.heap.size, 1, none⟩) (by show w.heap.size < _; omega)).trans hHeld2.2⟩ (fun hHeld3 => ?_)
      clear hK K
      obtain ⟨A3, c3, rfl⟩ := Kd.V_slice hv3
      have HV3 := Aside0.mk (show Kd.V (Kd.int .i64) 3 W3 W2.heap.size (fun k => W1.heap.size ≤ k) (.slice A3 (l0_0.length + 1) c3) (l0_0 ++ [a1]) by
        have h := Kd.V_mono (ok' := fun k => W1.heap.size ≤ k) hv3 (fun k hk => hk.elim id (fun h => Nat.le_trans HS2.out h))
        rw [List.length_append] at h
        exact h)
      have HB3 := Aside0.mk (HB2.out.trans (hb3.mono HB2.out.size))
      have HG3 := Aside0.mk ((hb3.block _ lt2).trans HG2.out)
      clear hHeld2 HV2 HB2 HG2 hb3 hv3 HO2 lt2
      refine norm_ (a' := ?_) ?_ ?_
      rotate_left
      · show Act.put _ (some 24) _ = _
        simp only [Act.put, q1, q2, q3, i64_w, i32_w]
        rfl
      refine one_ (i := 10) (N := none) (bA 12 2047) rfl rfl (one_of HT_.out (by kernel_rfl)) (by decide) (fun K hK => ?_)
      have q0 : W3.cell? ⟨w.heap.size + 1, 0, none⟩ = some (.slice none 0 0) := (blk_cell HG3.out 0).trans rfl
      have q1 : W3.cell? ⟨w.heap.size + 1, 1, none⟩ = some (.int .i64 0) := (blk_cell HG3.out 1).trans rfl
      have q2 := blk_frozen HG3.out 0
      have q3 := blk_frozen HG3.out 1
      refine skip_ (w1 := ?_) (by rfl) rfl ?_ ?_
      rotate_left
      · go_simp
        rfl
      refine hK.out _ _ ⟨((cell_far (p := ⟨w.heap.size + 1, _, none⟩) (by simp) _).trans ((cell_far (p := ⟨w.heap.size + 1, _, none⟩) (by simp) _).trans hHeld3.1)), ((cell_far (p := ⟨w.heap.size + 1, _, none⟩) (by simp) _).trans ((cell_far (p := ⟨w.heap.size + 1, _, none⟩) (by simp) _).trans hHeld3.2))⟩ (fun hHeld4 => ?_)
      clear hK K
      refine pure_ (i := 11) (N := some 5) (v := ?_) (a' := ?_) (bA 12 4095) rfl rfl (an_ HT_.out) (fun _ _ _ h => h) (Or.inl ⟨by rfl, ?_⟩) ?_ ?_
      rotate_left
      · intro w'
        go_simp
        with_reducible rfl
      rotate_left
      · simp only [Act.put, q1, q2, q3, i64_w, i32_w]
        rfl
      refine done_ (done_of HT_.out (by kernel_rfl)) ?_
      try go_wp2
      refine bodyPost_ret (results_ct rfl _ _ (w.heap.size + 1) 134 #[.slice A3 (l0_0.length + 1) c3, .int .i64 a0_1] (0, 0) _ rfl (by refine blk_put (cs := #[.slice A3 (l0_0.length + 1) c3, .int .i64 0]) ?_ 1 _ rfl; refine blk_put (cs := #[.slice none 0 0, .int .i64 0]) ?_ 0 _ rfl; exact HG3.out) Try.underlying134 rfl (by kernel_rfl)) rfl ?_
      have lt3 := HZ1.out
      refine ⟨_, rfl, Kd.V_mono (Kd.V_far (p := ⟨w.heap.size + 1, 1, none⟩) (Kd.V_far (p := ⟨w.heap.size + 1, 0, none⟩) HV3.out (fun k hk => ?_) _) (fun k hk => ?_) _) (fun k hk => .inr ?_), below_set (below_set HB3.out (by omega)) (by omega)⟩
      · show k ≠ w.heap.size + 1; omega
      · show k ≠ w.heap.size + 1; omega
      · omega
    · rw [if_neg c4] at h
      exact absurd h (by simp)
end Go.Proofs.Ytkmjboeabmmecaa.MAll
