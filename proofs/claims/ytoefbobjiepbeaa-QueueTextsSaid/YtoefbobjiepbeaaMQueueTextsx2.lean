/- The functions that the law reaches in plain Lean, and that the calls come to what these say. No condition. (By wip/myprint.py, this session's program over the kit's print.) -/
import Derived.Test.YtoefbobjiepbeaaMQueueTextsx0
import Derived.Test.YtoefbobjiepbeaaMQueueTextsx1
namespace Go.Proofs.Ytoefbobjiepbeaa.MQueueTexts
open Go.RowKit Go.Proofs.YtoefbobjiepbeaaW.PrintWords Go.Proofs.YtoefbobjiepbeaaW.PrintLast Go.Proofs.YtoefbobjiepbeaaW.PrintMore
attribute [local go_sem] max2_int min2_int max_two min_two max_three min_three max_four min_four   -- for this text's walks alone
set_option linter.unusedVariables false
set_option linter.unusedSimpArgs false

/-! ### queue_Push_string: function 21, by hand -/
def queue_Push_string.f (l0_0 : List ByteArray) (a0_1 : Int) (a1 : ByteArray) : Option (List ByteArray × Int × Int) := if (l0_0.length : Int) ≥ a0_1 then some (l0_0, a0_1, 4) else if l0_0.length < 1000000 then some (l0_0 ++ [a1], a0_1, 0) else none
def queue_Push_string.T4 : Bool × List (List Nat × List Nat) := (true, [([], []), ([], []), ([1], [1]), ([], []), ([], []), ([2, 3, 4], [2, 3, 4]), ([], []), ([6], [6]), ([5, 7], [5, 7]), ([0, 8, 8], [0, 8]), ([9, 9, 0, 1, 2, 3, 4, 5, 6, 7, 8, 9], [9]), ([10, 0, 1, 2, 3, 4, 5, 6, 7, 8, 9, 10], [])])
def queue_Push_string.B4 : List Nat := [0, 0, 2, 0, 0, 30, 0, 64, 254, 511, 1023, 2047]
theorem queue_Push_string.tab4 : rtab .any (opsOf Try.f21 4) = queue_Push_string.T4 := by kernel_rfl
theorem queue_Push_string.bits4 : waitsOk queue_Push_string.T4.2 queue_Push_string.B4 = true := by kernel_rfl
set_option maxHeartbeats 8000000 in
set_option maxRecDepth 100000 in
theorem queue_Push_string.calls (P0_0_ : Nat → Prop) (A0_0 : Option Addr) (c0_0 : Nat) (l0_0 : List ByteArray) (a0_1 : Int) (a1 : ByteArray) (r1 : List ByteArray) (r2 : Int) (r3 : Int) (w : World) (hs0_0 : Kd.V Kd.string 9 w w.heap.size (fun k_ => P0_0_ k_) (.slice A0_0 l0_0.length c0_0) l0_0) (h : queue_Push_string.f l0_0 a0_1 a1 = some (r1, r2, r3)) :
    Calls Try.prog 21 #[.agg #[.slice A0_0 l0_0.length c0_0, .int .i64 a0_1], .string a1] w fun e w' => ∃ v0_ : Value, e = .returned (.tuple #[.agg #[v0_, .int .i64 r2], .int .i64 r3]) ∧ Kd.V Kd.string 9 w' w.heap.size (fun k_ => (P0_0_ k_ ∨ w.heap.size ≤ k_)) v0_ r1 ∧ Below w.heap.size w w' := by
  unfold queue_Push_string.f at h
  by_cases c3 : (l0_0.length : Int) ≥ a0_1
  · rw [if_pos c3] at h
    have c3b0 : decide (a0_1 ≤ (l0_0.length : Int)) = true := decide_eq_true c3
    clear c3
    simp only [Option.some.injEq, Prod.mk.injEq] at h
    obtain ⟨rfl, rfl, rfl⟩ := h
    have HV := Aside0.mk hs0_0
    clear hs0_0
    go_enter Try.func21, Try.ntmps21
    go_wp2
    exact bodyPost_ret (v := .tuple #[.agg #[.slice A0_0 l0_0.length c0_0, .int .i64 a0_1], .int .i64 4]) (by simp [results, Try.results21, go_sem]) rfl ⟨_, rfl, Kd.V_mono (Kd.V_alloc (Kd.V_alloc HV.out _) _) (fun _ hk => .inl hk), ((Below.refl _ _).alloc (Nat.le_refl _) _).alloc (by simp) _⟩
  · rw [if_neg c3] at h
    have c3b0 : decide (a0_1 ≤ (l0_0.length : Int)) = false := decide_eq_false c3
    clear c3
    by_cases c4 : l0_0.length < 1000000
    · rw [if_pos c4] at h
      simp only [Option.some.injEq, Prod.mk.injEq] at h
      obtain ⟨rfl, rfl, rfl⟩ := h
      have HV := Aside0.mk hs0_0
      have hcap := (Kd.V_at hs0_0).2.1
      clear hs0_0
      go_enter Try.func21, Try.ntmps21
      go_wp2
      have HB := Aside0.mk (show Below w.heap.size w ((w.alloc (.cells #[.slice A0_0 l0_0.length c0_0, .int .i64 a0_1] 49)).alloc (.cells #[.slice none 0 0, .int .i64 0] 49)).drew from below_drew1 (((Below.refl _ _).alloc (Nat.le_refl _) _).alloc (by simp) _))
      have HVW := Aside0.mk (show Kd.V Kd.string 9 ((w.alloc (.cells #[.slice A0_0 l0_0.length c0_0, .int .i64 a0_1] 49)).alloc (.cells #[.slice none 0 0, .int .i64 0] 49)).drew w.heap.size (fun k_ => P0_0_ k_ ∧ k_ < w.heap.size) (.slice A0_0 l0_0.length c0_0) l0_0 from Kd.V_drew (Kd.V_alloc (Kd.V_alloc (Kd.V_bound HV.out) _) _))
      have HZ := Aside0.mk (show w.heap.size + 2 = ((w.alloc (.cells #[.slice A0_0 l0_0.length c0_0, .int .i64 a0_1] 49)).alloc (.cells #[.slice none 0 0, .int .i64 0] 49)).drew.heap.size by simp)
      have HG := Aside0.mk (show ((w.alloc (.cells #[.slice A0_0 l0_0.length c0_0, .int .i64 a0_1] 49)).alloc (.cells #[.slice none 0 0, .int .i64 0] 49)).drew.heap[w.heap.size + 1]? = some (.cells #[.slice none 0 0, .int .i64 0] 49 (0, 0)) from blk_drew (by have h2 := blk_new (w.alloc (.cells #[.slice A0_0 l0_0.length c0_0, .int .i64 a0_1] 49)) (.cells #[.slice none 0 0, .int .i64 0] 49); rw [World.size_alloc] at h2; exact h2))
      refine start_ (n := 12) (S := fun w' => w'.cell? ⟨w.heap.size, 0, none⟩ = some (.slice A0_0 l0_0.length c0_0) ∧ w'.cell? ⟨w.heap.size, 1, none⟩ = some (.int .i64 a0_1)) (ds := []) #[false, false, false, false, false, false, false, false, false, false, false, false] (by kernel_rfl) rfl rfl ?_ (fun hHeld => ?_)
      · constructor <;> go_simp
      refine with_tabW queue_Push_string.tab4 queue_Push_string.bits4 (fun HT_ HW_ => ?_)
      generalize ((w.alloc (.cells #[.slice A0_0 l0_0.length c0_0, .int .i64 a0_1] 49)).alloc (.cells #[.slice none 0 0, .int .i64 0] 49)).drew = W0 at HB HVW HZ HG hHeld ⊢
      refine pure_ (i := 1) (N := some 16) (v := ?_) (a' := ?_) #[false, true, false, false, false, false, false, false, false, false, false, false] rfl rfl (any_of HT_.out (by kernel_rfl)) (fun _ _ _ h => h) (Or.inl ⟨by rfl, ?_⟩) ?_ ?_
      rotate_left
      · intro w'
        go_simp
        with_reducible rfl
      rotate_left
      · simp only [Act.put, List.setIfInBounds_toArray, List.set_cons_zero, List.set_cons_succ, i64_w, i32_w]
        rfl
      refine pure_ (i := 3) (N := some 18) (v := ?_) (a' := ?_) #[false, true, false, true, false, false, false, false, false, false, false, false] rfl rfl (any_of HT_.out (by kernel_rfl)) (fun _ _ _ h => h) (Or.inl ⟨by rfl, ?_⟩) ?_ ?_
      rotate_left
      · intro w'
        go_simp
        with_reducible rfl
      rotate_left
      · simp only [Act.put, List.setIfInBounds_toArray, List.set_cons_zero, List.set_cons_succ, i64_w, i32_w]
        rfl
      refine pure_ (i := 4) (N := some 19) (v := ?_) (a' := ?_) #[false, true, false, true, true, false, false, false, false, false, false, false] rfl rfl (any_of HT_.out (by kernel_rfl)) (fun _ _ _ h => h) (Or.inl ⟨by rfl, ?_⟩) ?_ ?_
      rotate_left
      · intro w'
        go_simp
        with_reducible rfl
      rotate_left
      · simp only [Act.put, List.setIfInBounds_toArray, List.set_cons_zero, List.set_cons_succ, i64_w, i32_w]
        rfl
      refine pure_ (i := 6) (N := some 21) (v := ?_) (a' := ?_) #[false, true, false, true, true, false, true, false, false, false, false, false] rfl rfl (any_of HT_.out (by kernel_rfl)) (fun _ _ _ h => h) (Or.inl ⟨by rfl, ?_⟩) ?_ ?_
      rotate_left
      · intro w'
        go_simp
        with_reducible rfl
      rotate_left
      · simp only [Act.put, List.setIfInBounds_toArray, List.set_cons_zero, List.set_cons_succ, i64_w, i32_w]
        rfl
      refine take_ (i := 0) (N := some 15) (v := ?_) (a' := ?_) #[true, true, false, true, true, false, true, false, false, false, false, false] rfl rfl (take_ofW HT_.out HW_.out (by kernel_rfl)) (fun _ _ _ h => h) (Or.inl ⟨by rfl, ?_⟩) hHeld ?_ ?_
      rotate_left
      · rintro w' ⟨s0, s1⟩
        try simp only [Int.toNat_natCast] at s0 s1
        go_simp
        with_reducible rfl
      rotate_left
      · simp only [Act.put, List.setIfInBounds_toArray, List.set_cons_zero, List.set_cons_succ, i64_w, i32_w]
        rfl
      refine take_ (i := 2) (N := some 17) (v := ?_) (a' := ?_) #[true, true, true, true, true, false, true, false, false, false, false, false] rfl rfl (take_ofW HT_.out HW_.out (by kernel_rfl)) (fun _ _ _ h => h) (Or.inl ⟨by rfl, ?_⟩) hHeld ?_ ?_
      rotate_left
      · rintro w' ⟨s0, s1⟩
        try simp only [Int.toNat_natCast] at s0 s1
        go_simp
        with_reducible rfl
      rotate_left
      · simp only [Act.put, List.setIfInBounds_toArray, List.set_cons_zero, List.set_cons_succ, i64_w, i32_w]
        rfl
      refine pure_ (i := 5) (N := some 20) (v := ?_) (a' := ?_) #[true, true, true, true, true, true, true, false, false, false, false, false] rfl rfl (any_of HT_.out (by kernel_rfl)) (fun _ _ _ h => h) (Or.inl ⟨by rfl, ?_⟩) ?_ ?_
      rotate_left
      · intro w'
        go_simp
        with_reducible rfl
      rotate_left
      · simp only [Act.put, List.setIfInBounds_toArray, List.set_cons_zero, List.set_cons_succ, i64_w, i32_w]
        rfl
      refine one_ (i := 7) (N := some 22) #[true, true, true, true, true, true, true, true, false, false, false, false] rfl rfl (one_of HT_.out (by kernel_rfl)) (by decide) (fun K hK => ?_)
      refine Kd.R_lit_step Kd.string _ 9 ?hg (N := 22) ?hd (xs := ([a1] : List ByteArray)) (inner := [.string a1]) (ok := fun _ => True) (okp := fun _ => True) ?hr ?hp (fun _ hk => hk) trivial (Below.refl _ _) (Nat.le_refl _) (by simp) ?_; (case hd => rfl); (case hg => rfl); (case hr => first | (go_simp; done) | (go_simp; rfl)); (case hp => exact (Reps.one (show Kd.M Kd.string _ _ _ a1 [.string a1] from rfl) (Reps.none _ _)))
      intro vx W1 hox hb1 _ _
      have lt0 : w.heap.size < W0.heap.size ∧ w.heap.size + 1 < W0.heap.size := by have := HZ.out; omega
      refine hK.out _ _ ⟨(hb1.cell (p := ⟨w.heap.size, 0, none⟩) lt0.1).trans hHeld.1, (hb1.cell (p := ⟨w.heap.size, 1, none⟩) lt0.1).trans hHeld.2⟩ (fun hHeld1 => ?_)
      clear hK K
      have HV1 := Aside0.mk (Kd.V_below HVW.out hb1)
      have HB1 := Aside0.mk (HB.out.trans (hb1.mono HB.out.size))
      have HG1 := Aside0.mk ((hb1.block _ lt0.2).trans HG.out)
      have HZ1 := Aside0.mk (show w.heap.size + 1 < W1.heap.size from Nat.lt_of_lt_of_le lt0.2 hb1.size)
      clear hHeld HVW HB HG hb1
      obtain ⟨Ax, cx, rfl, hcx, hCx⟩ := Kd.R_reads hox
      obtain ⟨ad, rfl, _⟩ := hCx.2.2 (by simp)
      have HCX := Aside0.mk hCx
      clear hCx hox hcx lt0
      refine norm_ (a' := ?_) ?_ ?_
      rotate_left
      · show Act.put _ (some 22) _ = _
        simp only [Act.put, List.setIfInBounds_toArray, List.set_cons_zero, List.set_cons_succ, i64_w, i32_w]
        rfl
      refine one_ (i := 8) (N := some 23) #[true, true, true, true, true, true, true, true, true, false, false, false] rfl rfl (one_of HT_.out (by kernel_rfl)) (by decide) (fun K hK => ?_)
      refine Steps.append_full_step Kd.string (Steps.flat_string) 9 47 (.tmp 20) (.tmp 22) (.string ⟨#[]⟩) 16 rfl rfl Try.underlying47 info9 rfl (by decide) A0_0 l0_0 [a1] rfl (Kd.V_reads' HV1.out).2.2 ad 1 cx rfl HCX.out (fun _ _ h => h) (by decide) ?cA ?cB ?cC (fun v2 W2 ho2 hg2 => ?_)
      case cA =>
        rintro rfl
        rcases Nat.eq_zero_or_pos l0_0.length with h0 | h0
        · exact List.eq_nil_of_length_eq_zero h0
        · obtain ⟨_, h1, _⟩ := (Kd.V_reads' HV1.out).2.2.2.2 h0
          cases h1
      case cB => unfold maxLen; omega
      case cC => omega
      have hb2 : Below W1.heap.size W1 W2 := (Below.refl _ _).grown hg2 (Nat.le_refl _) (fun _ h => by cases h)
      have lt1 := HZ1.out
      refine hK.out _ _ ⟨(hb2.cell (p := ⟨w.heap.size, 0, none⟩) (by show w.heap.size < _; omega)).trans hHeld1.1, (hb2.cell (p := ⟨w.heap.size, 1, none⟩) (by show w.heap.size < _; omega)).trans hHeld1.2⟩ (fun hHeld2 => ?_)
      clear hK K
      have HV2 := Aside0.mk (Kd.V_below HV1.out hb2)
      have HB2 := Aside0.mk (HB1.out.trans (hb2.mono HB1.out.size))
      have HG2 := Aside0.mk ((hb2.block _ lt1).trans HG1.out)
      have HS2 := Aside0.mk hb2.size
      obtain ⟨A2, c2, rfl⟩ := Kd.R_slice ho2
      have HO2 := Aside0.mk ho2
      clear hHeld1 HV1 HB1 HG1 hb2 hg2 ho2 HCX lt1
      refine norm_ (a' := ?_) ?_ ?_
      rotate_left
      · show Act.put _ (some 23) _ = _
        simp only [Act.put, List.setIfInBounds_toArray, List.set_cons_zero, List.set_cons_succ, i64_w, i32_w]
        rfl
      refine one_ (i := 9) (N := some 24) #[true, true, true, true, true, true, true, true, true, true, false, false] rfl rfl (one_of HT_.out (by kernel_rfl)) (by decide) (fun K hK => ?_)
      refine call_ 26 #[.agg #[.slice A0_0 l0_0.length c0_0, .int .i64 a0_1], .slice A2 (l0_0 ++ [a1]).length c2] (by rfl) rfl (by go_simp) ?_
      refine (queue_Queue_string_with.calls A0_0 c0_0 l0_0 a0_1 (fun k => W1.heap.size ≤ k) A2 c2 (l0_0 ++ [a1]) _ _ W2 (Kd.V_reads' HV2.out).2.2 (Kd.V_reads' HV2.out).2.1 (Kd.R_V HO2.out) rfl).mono ?_
      rintro e W3 ⟨v3, rfl, hv3, hb3⟩
      refine ⟨_, rfl, ?_⟩
      have lt2 : w.heap.size + 1 < W2.heap.size := by have := HZ1.out; have := HS2.out; omega
      refine hK.out _ _ ⟨(hb3.cell (p := ⟨w.heap.size, 0, none⟩) (by show w.heap.size < _; omega)).trans hHeld2.1, (hb3.cell (p := ⟨w.heap.size, 1, none⟩) (by show w.heap.size < _; omega)).trans hHeld2.2⟩ (fun hHeld3 => ?_)
      clear hK K
      obtain ⟨A3, c3, rfl⟩ := Kd.V_slice hv3
      have HV3 := Aside0.mk (show Kd.V Kd.string 9 W3 W2.heap.size (fun k => W1.heap.size ≤ k) (.slice A3 (l0_0.length + 1) c3) (l0_0 ++ [a1]) by
        have h := Kd.V_mono (ok' := fun k => W1.heap.size ≤ k) hv3 (fun k hk => hk.elim id (fun h => Nat.le_trans HS2.out h))
        rw [List.length_append] at h
        exact h)
      have HB3 := Aside0.mk (HB2.out.trans (hb3.mono HB2.out.size))
      have HG3 := Aside0.mk ((hb3.block _ lt2).trans HG2.out)
      clear hHeld2 HV2 HB2 HG2 hb3 hv3 HO2 lt2
      refine norm_ (a' := ?_) ?_ ?_
      rotate_left
      · show Act.put _ (some 24) _ = _
        simp only [Act.put, List.setIfInBounds_toArray, List.set_cons_zero, List.set_cons_succ, i64_w, i32_w]
        rfl
      refine one_ (i := 10) (N := none) #[true, true, true, true, true, true, true, true, true, true, true, false] rfl rfl (one_of HT_.out (by kernel_rfl)) (by decide) (fun K hK => ?_)
      have q0 : W3.cell? ⟨w.heap.size + 1, 0, none⟩ = some (.slice none 0 0) := (blk_cell HG3.out 0).trans rfl
      have q1 : W3.cell? ⟨w.heap.size + 1, 1, none⟩ = some (.int .i64 0) := (blk_cell HG3.out 1).trans rfl
      have q2 := blk_frozen HG3.out 0
      have q3 := blk_frozen HG3.out 1
      refine skip_ (w1 := ?_) (by rfl) rfl ?_ ?_
      rotate_left
      · go_simp
        rfl
      refine hK.out _ _ ⟨((cell_far (p := ⟨w.heap.size + 1, _, none⟩) (by simp) _).trans ((cell_far (p := ⟨w.heap.size + 1, _, none⟩) (by simp) _).trans hHeld3.1)), ((cell_far (p := ⟨w.heap.size + 1, _, none⟩) (by simp) _).trans ((cell_far (p := ⟨w.heap.size + 1, _, none⟩) (by simp) _).trans hHeld3.2))⟩ (fun hHeld4 => ?_)
      clear hK K
      refine pure_ (i := 11) (N := some 5) (v := ?_) (a' := ?_) #[true, true, true, true, true, true, true, true, true, true, true, true] rfl rfl (any_of HT_.out (by kernel_rfl)) (fun _ _ _ h => h) (Or.inl ⟨by rfl, ?_⟩) ?_ ?_
      rotate_left
      · intro w'
        go_simp
        with_reducible rfl
      rotate_left
      · simp only [Act.put, List.setIfInBounds_toArray, List.set_cons_zero, List.set_cons_succ, i64_w, i32_w]
        rfl
      refine done_ (done_of HT_.out (by kernel_rfl)) ?_
      try go_wp2
      refine bodyPost_ret (results_ct rfl _ _ (w.heap.size + 1) 49 #[.slice A3 (l0_0.length + 1) c3, .int .i64 a0_1] (0, 0) _ rfl (by refine blk_put (cs := #[.slice A3 (l0_0.length + 1) c3, .int .i64 0]) ?_ 1 _ rfl; refine blk_put (cs := #[.slice none 0 0, .int .i64 0]) ?_ 0 _ rfl; exact HG3.out) Try.underlying49 rfl (by kernel_rfl)) rfl ?_
      have lt3 := HZ1.out
      refine ⟨_, rfl, Kd.V_mono (Kd.V_far (p := ⟨w.heap.size + 1, 1, none⟩) (Kd.V_far (p := ⟨w.heap.size + 1, 0, none⟩) HV3.out (fun k hk => ?_) _) (fun k hk => ?_) _) (fun k hk => .inr ?_), below_set (below_set HB3.out (by omega)) (by omega)⟩
      · show k ≠ w.heap.size + 1; omega
      · show k ≠ w.heap.size + 1; omega
      · omega
    · rw [if_neg c4] at h
      exact absurd h (by simp)
/-! ### queue_Drain_string: function 22 -/
def queue_Drain_string.f (l0_0 : List ByteArray) (a0_1 : Int) (a1 : Int) : Option (List ByteArray × Int × List ByteArray) := if 0 ≤ (mx 0 (mn a1 (l0_0.length : Int))) then (if (mx 0 (mn a1 (l0_0.length : Int))) ≤ (l0_0.length : Int) then ((queue_Queue_string_with.f l0_0 a0_1 (l0_0.drop ((mx 0 (mn a1 (l0_0.length : Int))) : Int).toNat)).bind fun bt179 => (some (bt179.1, bt179.2, (l0_0.take ((mx 0 (mn a1 (l0_0.length : Int))) : Int).toNat)))) else (none)) else (none)
def queue_Drain_string.T2 : Bool × List (List Nat × List Nat) := (true, [([], []), ([], []), ([1], [1]), ([], []), ([2, 3], [2, 3]), ([0, 4], [0, 4]), ([], []), ([6], [6]), ([], []), ([7, 8], [7, 8]), ([5, 5, 0, 1, 2, 3, 4, 5], [5]), ([9, 10, 0, 1, 2, 3, 4, 5, 6, 7, 8, 9, 10], [9])])
def queue_Drain_string.B2 : List Nat := [0, 0, 2, 0, 14, 31, 0, 64, 0, 448, 63, 2047]
theorem queue_Drain_string.tab2 : rtab .any (opsOf Try.f22 2) = queue_Drain_string.T2 := by kernel_rfl
theorem queue_Drain_string.bits2 : waitsOk queue_Drain_string.T2.2 queue_Drain_string.B2 = true := by kernel_rfl
set_option maxHeartbeats 8000000 in
set_option maxRecDepth 100000 in
theorem queue_Drain_string.calls (P0_0_ : Nat → Prop) (A0_0 : Option Addr) (c0_0 : Nat) (l0_0 : List ByteArray) (a0_1 : Int) (a1 : Int) (r1 : List ByteArray) (r2 : Int) (r3 : List ByteArray) (w : World) (hs0_0 : Kd.V Kd.string 9 w w.heap.size (fun k_ => P0_0_ k_) (.slice A0_0 l0_0.length c0_0) l0_0) (h : queue_Drain_string.f l0_0 a0_1 a1 = some (r1, r2, r3)) :
    Calls Try.prog 22 #[.agg #[.slice A0_0 l0_0.length c0_0, .int .i64 a0_1], .int .i64 a1] w fun e w' => ∃ v0_ v2_ : Value, e = .returned (.tuple #[.agg #[v0_, .int .i64 r2], v2_]) ∧ Kd.V Kd.string 9 w' w.heap.size (fun k_ => (P0_0_ k_ ∨ w.heap.size ≤ k_)) v0_ r1 ∧ Kd.V Kd.string 9 w' w.heap.size (fun k_ => (P0_0_ k_ ∨ w.heap.size ≤ k_)) v2_ r3 ∧ Below w.heap.size w w' := by
  have hu49 := Try.underlying49
  have HO0_0 := Aside0.mk (show Kd.V Kd.string 9 w w.heap.size (fun k_ => (P0_0_ k_ ∨ w.heap.size ≤ k_)) (.slice A0_0 l0_0.length c0_0) l0_0 from Kd.V_mono hs0_0 (fun k_ hk => .inl hk))
  have HB := Aside0.mk (Below.refl w.heap.size w)
  have H : (if 0 ≤ (mx 0 (mn a1 (l0_0.length : Int))) then (if (mx 0 (mn a1 (l0_0.length : Int))) ≤ (l0_0.length : Int) then ((queue_Queue_string_with.f l0_0 a0_1 (l0_0.drop ((mx 0 (mn a1 (l0_0.length : Int))) : Int).toNat)).bind fun bt179 => (some (bt179.1, bt179.2, (l0_0.take ((mx 0 (mn a1 (l0_0.length : Int))) : Int).toNat)))) else (none)) else (none)) = some (r1, r2, r3) := h
  clear h
  obtain ⟨ji3, hji3⟩ : ∃ j_ : Int, (mn a1 (l0_0.length : Int)) = j_ := ⟨_, rfl⟩
  replace H : (if 0 ≤ (mx 0 (ji3)) then (if (mx 0 (ji3)) ≤ (l0_0.length : Int) then ((queue_Queue_string_with.f l0_0 a0_1 (l0_0.drop ((mx 0 (ji3)) : Int).toNat)).bind fun bt179 => (some (bt179.1, bt179.2, (l0_0.take ((mx 0 (ji3)) : Int).toNat)))) else (none)) else (none)) = some (r1, r2, r3) := by first | (rw [hji3] at H; exact H) | (simp only [hji3] at H ⊢; exact H)
  have hji3_ : (if (l0_0.length : Int) < a1 then (l0_0.length : Int) else a1) = ji3 := hji3
  obtain ⟨ji4, hji4⟩ : ∃ j_ : Int, (mx 0 (ji3)) = j_ := ⟨_, rfl⟩
  replace H : (if 0 ≤ (ji4) then (if (ji4) ≤ (l0_0.length : Int) then ((queue_Queue_string_with.f l0_0 a0_1 (l0_0.drop ((ji4) : Int).toNat)).bind fun bt179 => (some (bt179.1, bt179.2, (l0_0.take ((ji4) : Int).toNat)))) else (none)) else (none)) = some (r1, r2, r3) := by first | (rw [hji4] at H; exact H) | (simp only [hji4] at H ⊢; exact H)
  have hji4_ : (if 0 < (ji3) then (ji3) else 0) = ji4 := hji4
  by_cases c5 : 0 ≤ (ji4)
  · rw [if_pos c5] at H
    have c5b0 := eq_true c5
    have c5b1 : decide (0 ≤ (ji4)) = true := decide_eq_true c5
    clear c5
    by_cases c6 : (ji4) ≤ (l0_0.length : Int)
    · rw [if_pos c6] at H
      have c6b0 := eq_true c6
      have c6b1 : decide ((ji4) ≤ (l0_0.length : Int)) = true := decide_eq_true c6
      clear c6
      obtain ⟨y174, hy174⟩ : ∃ y_ : List ByteArray, y_ = (l0_0.drop ((ji4) : Int).toNat) := ⟨_, rfl⟩
      replace H : ((queue_Queue_string_with.f l0_0 a0_1 y174).bind fun bt179 => (some (bt179.1, bt179.2, (l0_0.take ((ji4) : Int).toNat)))) = some (r1, r2, r3) := by first | (rw [hy174]; with_reducible exact H) | (have H2_ := (Option.bind_some _ _).symm.trans H; rw [hy174]; with_reducible exact H2_) | (have H2_ := (Option.bind_some _ _).symm.trans H; with_reducible exact H2_) | with_reducible exact H | (rw [hy174]; exact H) | exact H
      have Ny174 := Aside0.mk hy174
      clear hy174
      replace H := Option.bind_eq_some_iff.mp H
      obtain ⟨⟨t179, t182⟩, A70, H⟩ := H
      replace H : (some (t179, t182, (l0_0.take ((ji4) : Int).toNat))) = some (r1, r2, r3) := H
      have A7 := Aside0.mk A70
      clear A70
      have c8b0 := eq_true (of_decide_eq_true (by first | (with_reducible assumption) | assumption) : 0 ≤ (ji4))
      have c9b0 := eq_true (of_decide_eq_true (by first | (with_reducible assumption) | assumption) : (ji4) ≤ (l0_0.length : Int))
      obtain ⟨y183, hy183⟩ : ∃ y_ : List ByteArray, y_ = (l0_0.take ((ji4) : Int).toNat) := ⟨_, rfl⟩
      replace H : (some (t179, t182, y183)) = some (r1, r2, r3) := by first | (rw [hy183]; with_reducible exact H) | (have H2_ := (Option.bind_some _ _).symm.trans H; rw [hy183]; with_reducible exact H2_) | (have H2_ := (Option.bind_some _ _).symm.trans H; with_reducible exact H2_) | with_reducible exact H | (rw [hy183]; exact H) | exact H
      have Ny183 := Aside0.mk hy183
      clear hy183
      simp only [Option.some.injEq, Prod.mk.injEq] at H
      obtain ⟨rfl, rfl, rfl⟩ := H
      go_enter Try.func22, Try.ntmps22
      try go_wp2_with (first | ((with_reducible refine gate_dst (N := 2) rfl ?_); refine box_event ?hg (N := 2) ?hd (cs := #[.slice A0_0 l0_0.length c0_0, .int .i64 a0_1]) (t := 49) ?hr ?_; (case hd => rfl); (case hg => rfl); (case hr => first | (go_simp; done) | (go_simp; rfl)); intro gb172 hg w10 hbox hb; have n0_ := Aside0.mk (Kd.V_below (Kd.V_elderB (by (with_reducible repeat (first | apply Kd.V_alloc | apply Kd.V_drewN | apply Kd.V_drew)); exact HO0_0.out) gb172 (Nat.le_of_eq hg.symm)) hb); have n1_ := Aside0.mk (below_step (by repeat (first | (with_reducible first | exact HB.out | apply below_alloc | apply pw_below_drewN | apply below_drew1) | exact HB.out)) hb); have n2_ := Aside0.mk (hbox); have n3_ := Aside0.mk ((by rw [hg]; exact (below_size (by repeat (first | (with_reducible first | exact HB.out | apply below_alloc | apply pw_below_drewN | apply below_drew1) | exact HB.out))) : w.heap.size ≤ gb172)); have n4_ := Aside0.mk ((by rw [hg]; exact (below_size (by repeat (first | (with_reducible first | exact HB.out | apply below_alloc | apply pw_below_drewN | apply below_drew1) | exact HB.out))) : w.heap.size ≤ gb172)); clear HO0_0; clear HB; have HO0_0 := n0_; have HB := n1_; have BK172 := n2_; have GW172 := n3_; have GE172 := n4_; clear n0_ n1_ n2_ n3_ n4_; clear hb hbox hg) | ((with_reducible refine gate_dst (N := 4) rfl ?_); refine box_event ?hg (N := 4) ?hd (cs := #[.slice none 0 0, .int .i64 0]) (t := 49) ?hr ?_; (case hd => rfl); (case hg => rfl); (case hr => first | (go_simp; done) | (go_simp; rfl)); intro gb173 hg w11 hbox hb; have n0_ := Aside0.mk (Kd.V_below (Kd.V_elderB (by (with_reducible repeat (first | apply Kd.V_alloc | apply Kd.V_drewN | apply Kd.V_drew)); exact HO0_0.out) gb173 (Nat.le_of_eq hg.symm)) hb); have n1_ := Aside0.mk (blk_below (g := gb172) (o := .cells #[.slice A0_0 l0_0.length c0_0, .int .i64 a0_1] 49 (0, 0)) (by (with_reducible repeat (first | refine blk_drewN ?_ _ | refine blk_drew ?_ | refine blk_alloc ?_ _)); exact BK172.out) hb); have n2_ := Aside0.mk (below_step (by repeat (first | (with_reducible first | exact HB.out | apply below_alloc | apply pw_below_drewN | apply below_drew1 | refine below_set ?_ GE172.out) | exact HB.out)) hb); have n3_ := Aside0.mk (hbox); have n4_ := Aside0.mk ((by rw [hg]; exact (below_size (by repeat (first | (with_reducible first | exact HB.out | apply below_alloc | apply pw_below_drewN | apply below_drew1 | refine below_set ?_ GE172.out) | exact HB.out))) : w.heap.size ≤ gb173)); have n5_ := Aside0.mk ((by rw [hg]; exact (below_size (by repeat (first | (with_reducible first | exact HB.out | apply below_alloc | apply pw_below_drewN | apply below_drew1 | refine below_set ?_ GE172.out) | exact HB.out))) : w.heap.size ≤ gb173)); have n6_ := Aside0.mk ((by rw [hg]; exact Nat.ne_of_lt (blk_lt (g := gb172) (o := .cells #[.slice A0_0 l0_0.length c0_0, .int .i64 a0_1] 49 (0, 0)) (by (with_reducible repeat (first | refine blk_drewN ?_ _ | refine blk_drew ?_ | refine blk_alloc ?_ _)); exact BK172.out)) : gb172 ≠ gb173)); have n7_ := Aside0.mk ((by rw [hg]; exact Nat.ne_of_gt (blk_lt (g := gb172) (o := .cells #[.slice A0_0 l0_0.length c0_0, .int .i64 a0_1] 49 (0, 0)) (by (with_reducible repeat (first | refine blk_drewN ?_ _ | refine blk_drew ?_ | refine blk_alloc ?_ _)); exact BK172.out)) : gb173 ≠ gb172)); clear HO0_0; clear BK172; clear HB; have HO0_0 := n0_; have BK172 := n1_; have HB := n2_; have BK173 := n3_; have GW173 := n4_; have GE173 := n5_; have NB172_173 := n6_; have NB173_172 := n7_; clear n0_ n1_ n2_ n3_ n4_ n5_ n6_ n7_; clear hb hbox hg; have hnb12 := NB172_173.out; have hnc12 := NB173_172.out; have hcz13_0 : w11.cell? ⟨gb172, 0, none⟩ = some (.slice A0_0 l0_0.length c0_0) := (blk_cell BK172.out 0).trans rfl; have hcz13_1 : w11.cell? ⟨gb172, 1, none⟩ = some (.int .i64 a0_1) := (blk_cell BK172.out 1).trans rfl; have hfz13_0 := blk_frozen BK172.out 0; have hfz13_1 := blk_frozen BK172.out 1))
      have n0_ := Aside0.mk (Kd.V_drew HO0_0.out)
      have n1_ := Aside0.mk (blk_drew BK172.out)
      have n2_ := Aside0.mk (blk_drew BK173.out)
      have n3_ := Aside0.mk (below_drew1 HB.out)
      clear HO0_0
      clear BK172
      clear BK173
      clear HB
      have HO0_0 := n0_
      have BK172 := n1_
      have BK173 := n2_
      have HB := n3_
      clear n0_ n1_ n2_ n3_
      have q15 : ((ji4) : Int) ≤ ((l0_0.length : Int) : Int) := of_decide_eq_true (by first | (with_reducible assumption) | assumption)
      obtain ⟨i015, hi015, _, hsz15, _⟩ := info_parts info9
      have hroom15 : l0_0.length ≤ c0_0 := (Kd.V_reads' HO0_0.out).2.1
      have hC15 : Kd.F Kd.string _ _ A0_0 l0_0.length l0_0 := (Kd.V_at (base := w.heap.size) HO0_0.out).2.2
      have q015 : (0 : Int) ≤ ((ji4) : Int) := of_decide_eq_true (by first | (with_reducible assumption) | assumption)
      have hcut15 := cut_from (P := Try.prog) 47 9 .i64 Try.underlying47 hi015 1 hsz15 A0_0 l0_0.length c0_0 (ji4) q015 q15
      have hr15 := Kd.F_cut (m := ((ji4) : Int).toNat) (c := c0_0) hC15 (by omega) hroom15
      obtain ⟨A15, hA15⟩ : ∃ A1, A1 = (if c0_0 = ((ji4) : Int).toNat then A0_0 else (A0_0 : Option Addr).map (·.add (((ji4) : Int).toNat * 1))) := ⟨_, rfl⟩
      obtain ⟨c15, hc15⟩ : ∃ c1, c1 = c0_0 - ((ji4) : Int).toNat := ⟨_, rfl⟩
      have hy15 : y174.length = l0_0.length - ((ji4) : Int).toNat := (by rw [Ny174.out, List.length_drop] <;> omega)
      rw [show (l0_0).drop ((ji4) : Int).toNat = y174 from Ny174.out.symm] at hr15
      replace hr15 : Kd.F Kd.string _ _ A15 y174.length y174 := (by rw [hA15]; exact hr15)
      rw [← hy15, ← hA15, ← hc15] at hcut15
      have HO178 := Aside0.mk (show Kd.V Kd.string 9 _ w.heap.size _ (.slice A15 y174.length c15) y174 from Kd.V_mk (by rw [hy15, hc15]; exact Nat.sub_le_sub_right hroom15 _) hr15)
      have HC178 := Aside0.mk (show y174.length ≤ c15 from by rw [hy15, hc15]; exact Nat.sub_le_sub_right hroom15 _)
      clear hr15 hC15 hroom15 hi015 hsz15 hc15
      have KY15 := Aside0.mk hy15
      have KA15 := Aside0.mk hA15
      clear hy15 hA15
      replace q15 := eq_true q15
      have q16 : ((ji4) : Int) ≤ ((l0_0.length : Int) : Int) := of_decide_eq_true (by first | (with_reducible assumption) | assumption)
      obtain ⟨i016, hi016, _, hsz16, _⟩ := info_parts info9
      have hroom16 : l0_0.length ≤ c0_0 := (Kd.V_reads' HO0_0.out).2.1
      have hC16 : Kd.F Kd.string _ _ A0_0 l0_0.length l0_0 := (Kd.V_at (base := w.heap.size) HO0_0.out).2.2
      have hcut16 := cut_to (P := Try.prog) 47 9 .i64 Try.underlying47 hi016 A0_0 l0_0.length c0_0 (ji4) (of_decide_eq_true (by first | (with_reducible assumption) | assumption)) q16 hroom16
      have hr16 := Kd.F_take (m := ((ji4) : Int).toNat) hC16 (by omega)
      have hy16 : y183.length = ((ji4) : Int).toNat := (by rw [Ny183.out, List.length_take]; omega)
      rw [← Ny183.out] at hr16
      rw [← hy16] at hcut16
      have HO187 := Aside0.mk (show Kd.V Kd.string 9 _ w.heap.size _ (.slice A0_0 y183.length c0_0) y183 from Kd.V_mk (by omega) hr16)
      have HC187 := Aside0.mk (show y183.length ≤ c0_0 from by omega)
      clear hr16 hC16 hroom16 hi016 hsz16
      have KY16 := Aside0.mk hy16
      clear hy16
      replace q16 := eq_true q16
      refine start_ (n := 12) (S := fun w' => w'.cell? ⟨gb172, 0, none⟩ = some (.slice A0_0 l0_0.length c0_0) ∧ w'.cell? ⟨gb172, 1, none⟩ = some (.int .i64 a0_1)) (ds := []) #[false, false, false, false, false, false, false, false, false, false, false, false] (by kernel_rfl) rfl rfl ⟨(blk_cell BK172.out 0).trans rfl, (blk_cell BK172.out 1).trans rfl⟩ (fun hHeld => ?_); refine with_tabW queue_Drain_string.tab2 queue_Drain_string.bits2 (fun HT_ HW_ => ?_)
      generalize w11.drew = w14 at HO0_0 BK172 BK173 HB HO178 HO187 hHeld ⊢
      refine pure_ (i := 1) (N := some 13) (v := ?_) (a' := ?_) #[false, true, false, false, false, false, false, false, false, false, false, false] rfl rfl (any_of HT_.out (by kernel_rfl)) (fun _ _ _ h => h) (Or.inl ⟨by rfl, ?_⟩) ?_ ?_
      rotate_left
      · intro w'
        go_simp
        with_reducible rfl
      rotate_left
      · simp only [Act.put, List.setIfInBounds_toArray, List.set_cons_zero, List.set_cons_succ, i64_w, i32_w]
        rfl
      refine pure_ (i := 3) (N := some 15) (v := ?_) (a' := ?_) #[false, true, false, true, false, false, false, false, false, false, false, false] rfl rfl (any_of HT_.out (by kernel_rfl)) (fun _ _ _ h => h) (Or.inl ⟨by rfl, ?_⟩) ?_ ?_
      rotate_left
      · intro w'
        go_simp
        with_reducible rfl
      rotate_left
      · simp only [Act.put, List.setIfInBounds_toArray, List.set_cons_zero, List.set_cons_succ, i64_w, i32_w]
        rfl
      refine pure_ (i := 6) (N := some 18) (v := ?_) (a' := ?_) #[false, true, false, true, false, false, true, false, false, false, false, false] rfl rfl (any_of HT_.out (by kernel_rfl)) (fun _ _ _ h => h) (Or.inl ⟨by rfl, ?_⟩) ?_ ?_
      rotate_left
      · intro w'
        go_simp
        with_reducible rfl
      rotate_left
      · simp only [Act.put, List.setIfInBounds_toArray, List.set_cons_zero, List.set_cons_succ, i64_w, i32_w]
        rfl
      refine pure_ (i := 8) (N := some 20) (v := ?_) (a' := ?_) #[false, true, false, true, false, false, true, false, true, false, false, false] rfl rfl (any_of HT_.out (by kernel_rfl)) (fun _ _ _ h => h) (Or.inl ⟨by rfl, ?_⟩) ?_ ?_
      rotate_left
      · intro w'
        go_simp
        with_reducible rfl
      rotate_left
      · simp only [Act.put, List.setIfInBounds_toArray, List.set_cons_zero, List.set_cons_succ, i64_w, i32_w]
        rfl
      refine take_ (i := 0) (N := some 12) (v := ?_) (a' := ?_) #[true, true, false, true, false, false, true, false, true, false, false, false] rfl rfl (take_ofW HT_.out HW_.out (by kernel_rfl)) (fun _ _ _ h => h) (Or.inl ⟨by rfl, ?_⟩) hHeld ?_ ?_
      rotate_left
      · rintro w' ⟨s0, s1⟩
        try simp only [Int.toNat_natCast] at s0 s1
        go_simp
        with_reducible rfl
      rotate_left
      · simp only [Act.put, List.setIfInBounds_toArray, List.set_cons_zero, List.set_cons_succ, i64_w, i32_w]
        rfl
      refine take_ (i := 2) (N := some 14) (v := ?_) (a' := ?_) #[true, true, true, true, false, false, true, false, true, false, false, false] rfl rfl (take_ofW HT_.out HW_.out (by kernel_rfl)) (fun _ _ _ h => h) (Or.inl ⟨by rfl, ?_⟩) hHeld ?_ ?_
      rotate_left
      · rintro w' ⟨s0, s1⟩
        try simp only [Int.toNat_natCast] at s0 s1
        go_simp
        with_reducible rfl
      rotate_left
      · simp only [Act.put, List.setIfInBounds_toArray, List.set_cons_zero, List.set_cons_succ, i64_w, i32_w]
        rfl
      refine pure_ (i := 4) (N := some 16) (v := ?_) (a' := ?_) #[true, true, true, true, true, false, true, false, true, false, false, false] rfl rfl (any_of HT_.out (by kernel_rfl)) (fun _ _ _ h => h) (Or.inl ⟨by rfl, ?_⟩) ?_ ?_
      rotate_left
      · intro w'
        go_simp
        with_reducible rfl
      rotate_left
      · simp only [Act.put, List.setIfInBounds_toArray, List.set_cons_zero, List.set_cons_succ, i64_w, i32_w]
        rfl
      refine take_ (i := 7) (N := some 19) (v := ?_) (a' := ?_) #[true, true, true, true, true, false, true, true, true, false, false, false] rfl rfl (take_ofW HT_.out HW_.out (by kernel_rfl)) (fun _ _ _ h => h) (Or.inl ⟨by rfl, ?_⟩) hHeld ?_ ?_
      rotate_left
      · rintro w' ⟨s0, s1⟩
        try simp only [Int.toNat_natCast] at s0 s1
        go_simp
        with_reducible rfl
      rotate_left
      · simp only [Act.put, List.setIfInBounds_toArray, List.set_cons_zero, List.set_cons_succ, i64_w, i32_w]
        rfl
      refine pure_ (i := 9) (N := some 21) (v := ?_) (a' := ?_) #[true, true, true, true, true, false, true, true, true, true, false, false] rfl rfl (any_of HT_.out (by kernel_rfl)) (fun _ _ _ h => h) (Or.inl ⟨by rfl, ?_⟩) ?_ ?_
      rotate_left
      · intro w'
        go_simp
        with_reducible rfl
      rotate_left
      · simp only [Act.put, List.setIfInBounds_toArray, List.set_cons_zero, List.set_cons_succ, i64_w, i32_w]
        rfl
      refine one_ (i := 5) (N := some 17) #[true, true, true, true, true, true, true, true, true, true, false, false] rfl rfl (one_of HT_.out (by kernel_rfl)) (by decide) (fun K hK => ?_)
      refine goes_ Try.func26 (by kernel_rfl) rfl #[.agg #[.slice A0_0 l0_0.length c0_0, .int .i64 a0_1], .slice A15 y174.length c15] (by rfl) rfl rfl (by (try simp only [List.map_toArray, List.map_cons, List.map_nil]); first | done | rfl | (simp only [List.length_drop, List.length_take]; rfl)) ?_
      with_reducible refine (queue_Queue_string_with.calls _ _ l0_0 a0_1 (fun k_ => (((P0_0_ k_ ∨ w.heap.size ≤ k_) ∧ k_ ≠ gb172) ∧ k_ ≠ gb173)) _ _ y174 t179 t182 _ ?side1 ?side2 ?side3 A7.out).mono ?_
      (case side1 => repeat (first | exact (Kd.V_reads' HO0_0.out).2.2 | (with_reducible refine Kd.C_alloc ?_ _) | (with_reducible refine Kd.C_drewN ?_ _) | (with_reducible refine Kd.C_drew ?_)))
      (case side2 => exact (Kd.V_reads' HO0_0.out).2.1)
      (case side3 => exact HO178.out)
      rintro e w17 ⟨v180, rfl, ho0, hb⟩
      refine ⟨_, rfl, ?_⟩
      have n0_ := Aside0.mk (Kd.V_below (by (with_reducible repeat (first | apply Kd.V_alloc | apply Kd.V_drewN | apply Kd.V_drew)); exact HO0_0.out) hb)
      have n1_ := Aside0.mk (Kd.V_below (by (with_reducible repeat (first | apply Kd.V_alloc | apply Kd.V_drewN | apply Kd.V_drew)); exact HO178.out) hb)
      have n2_ := Aside0.mk (Kd.V_below (by (with_reducible repeat (first | apply Kd.V_alloc | apply Kd.V_drewN | apply Kd.V_drew)); exact HO187.out) hb)
      have n3_ := Aside0.mk (Kd.V_lower (Kd.V_mono (ok' := fun k_ => (P0_0_ k_ ∨ w.heap.size ≤ k_) ∧ k_ ≠ gb172 ∧ k_ ≠ gb173) ho0 (fun k_ hk_ => ⟨Or.elim hk_ (fun hs_ => hs_.1.1) (fun hn_ => (.inr (Nat.le_trans (below_size (by repeat (first | (with_reducible first | exact HB.out | apply below_alloc | apply pw_below_drewN | apply below_drew1 | refine below_set ?_ GE172.out | refine below_set ?_ GE173.out) | exact HB.out))) hn_))), Or.elim hk_ (fun hs_ => hs_.1.2) (fun hn_ => (Kd.freshB (g := gb172) (o := .cells #[.slice A0_0 l0_0.length c0_0, .int .i64 a0_1] 49 (0, 0)) (by (with_reducible repeat (first | refine blk_drewN ?_ _ | refine blk_drew ?_ | refine blk_alloc ?_ _)); exact BK172.out) k_ hn_)), Or.elim hk_ (fun hs_ => hs_.2) (fun hn_ => (Kd.freshB (g := gb173) (o := .cells #[.slice none 0 0, .int .i64 0] 49 (0, 0)) (by (with_reducible repeat (first | refine blk_drewN ?_ _ | refine blk_drew ?_ | refine blk_alloc ?_ _)); exact BK173.out) k_ hn_))⟩)) (below_size (by repeat (first | (with_reducible first | exact HB.out | apply below_alloc | apply pw_below_drewN | apply below_drew1 | refine below_set ?_ GE172.out | refine below_set ?_ GE173.out) | exact HB.out))))
      have n4_ := Aside0.mk (blk_below (g := gb172) (o := .cells #[.slice A0_0 l0_0.length c0_0, .int .i64 a0_1] 49 (0, 0)) (by (with_reducible repeat (first | refine blk_drewN ?_ _ | refine blk_drew ?_ | refine blk_alloc ?_ _)); exact BK172.out) hb)
      have n5_ := Aside0.mk (blk_below (g := gb173) (o := .cells #[.slice none 0 0, .int .i64 0] 49 (0, 0)) (by (with_reducible repeat (first | refine blk_drewN ?_ _ | refine blk_drew ?_ | refine blk_alloc ?_ _)); exact BK173.out) hb)
      have n6_ := Aside0.mk (below_step (by repeat (first | (with_reducible first | exact HB.out | apply below_alloc | apply pw_below_drewN | apply below_drew1 | refine below_set ?_ GE172.out | refine below_set ?_ GE173.out) | exact HB.out)) hb)
      clear HO0_0
      clear HO178
      clear HO187
      clear BK172
      clear BK173
      clear HB
      have HO0_0 := n0_
      have HO178 := n1_
      have HO187 := n2_
      have HO181 := n3_
      have BK172 := n4_
      have BK173 := n5_
      have HB := n6_
      clear n0_ n1_ n2_ n3_ n4_ n5_ n6_
      (try clear hb)
      (try clear hb2)
      (try clear hk)
      (try clear hi)
      (try clear ho0)
      obtain ⟨Ao18, co18, eo18⟩ := Kd.V_slice HO181.out
      (first | subst eo18 | (injection eo18 with f1_ f2_ f3_; have f4_ := f1_.symm; have f5_ := f3_.symm; clear f1_ f2_ f3_; subst f4_; subst f5_))
      refine hK.out _ _ ⟨(blk_cell BK172.out 0).trans rfl, (blk_cell BK172.out 1).trans rfl⟩ (fun hHeld => ?_)
      clear hK K
      refine norm_ (a' := ?_) ?_ ?_
      rotate_left
      · show Act.put _ (some 17) _ = _
        simp only [Act.put, List.setIfInBounds_toArray, List.set_cons_zero, List.set_cons_succ, i64_w, i32_w]
        rfl
      refine one_ (i := 10) (N := none) #[true, true, true, true, true, true, true, true, true, true, true, false] rfl rfl (one_of HT_.out (by kernel_rfl)) (by decide) (fun K hK => ?_)
      have hs19 : w17.cell? ⟨gb173, 0, none⟩ = some (.slice none 0 0) := (blk_cell BK173.out 0).trans rfl
      have hfs19 := blk_frozen BK173.out 0
      have hns19_0 := NB172_173.out
      have hms19_0 := NB173_172.out
      have hs20 : w17.cell? ⟨gb173, 1, none⟩ = some (.int .i64 0) := (blk_cell BK173.out 1).trans rfl
      have hfs20 := blk_frozen BK173.out 1
      have hns20_0 := NB172_173.out
      have hms20_0 := NB173_172.out
      refine skip_ (w1 := ?_) (by rfl) rfl ?_ ?_
      rotate_left
      · go_simp
        rfl
      refine hK.out _ _ ⟨((cell_far (p := ⟨gb173, _, none⟩) NB172_173.out _).trans (((cell_far (p := ⟨gb173, _, none⟩) NB172_173.out _).trans (hHeld.1)))), ((cell_far (p := ⟨gb173, _, none⟩) NB172_173.out _).trans (((cell_far (p := ⟨gb173, _, none⟩) NB172_173.out _).trans (hHeld.2))))⟩ (fun hHeld => ?_)
      clear hK K
      refine pure_ (i := 11) (N := some 5) (v := ?_) (a' := ?_) #[true, true, true, true, true, true, true, true, true, true, true, true] rfl rfl (any_of HT_.out (by kernel_rfl)) (fun _ _ _ h => h) (Or.inl ⟨by rfl, ?_⟩) ?_ ?_
      rotate_left
      · intro w'
        go_simp
        with_reducible rfl
      rotate_left
      · simp only [Act.put, List.setIfInBounds_toArray, List.set_cons_zero, List.set_cons_succ, i64_w, i32_w]
        rfl
      refine done_ (done_of HT_.out (by kernel_rfl)) ?_
      try go_wp2
      refine bodyPost_ret (results_ct rfl _ _ gb173 49 #[.slice Ao18 t179.length co18, .int .i64 t182] (0, 0) _ rfl (by (with_reducible repeat (first | refine blk_drewN ?_ _ | refine blk_drew ?_ | refine blk_alloc ?_ _)); refine blk_put (cs := #[.slice Ao18 t179.length co18, .int .i64 0]) ?_ 1 _ rfl; (with_reducible repeat (first | refine blk_drewN ?_ _ | refine blk_drew ?_ | refine blk_alloc ?_ _)); refine blk_put (cs := #[.slice none 0 0, .int .i64 0]) ?_ 0 _ rfl; (with_reducible repeat (first | refine blk_drewN ?_ _ | refine blk_drew ?_ | refine blk_alloc ?_ _)); exact BK173.out) Try.underlying49 rfl (by kernel_rfl)) rfl ?_
      exact ⟨_, _, by first | rfl | (simp [errW_none, errW_some] <;> rfl) | (simp only [← hji3, ← hji4]; first | rfl | (simp [errW_none, errW_some] <;> rfl)) | (simp [*, errW_none, errW_some] <;> rfl), by (with_reducible repeat (first | apply Kd.V_alloc | apply Kd.V_drewN | apply Kd.V_drew)); exact Kd.V_mono (Kd.V_far (p := ⟨gb173, 1, none⟩) (Kd.V_far (p := ⟨gb173, 0, none⟩) (Kd.V_mono HO181.out (fun k_ hk => (⟨hk, hk.2.2⟩ : _ ∧ k_ ≠ gb173))) (fun _ hk => hk.2) (.slice Ao18 t179.length co18)) (fun _ hk => hk.2) (.int .i64 t182)) (fun _ hk => hk.1.1), by (with_reducible repeat (first | apply Kd.V_alloc | apply Kd.V_drewN | apply Kd.V_drew)); exact Kd.V_mono (Kd.V_far (p := ⟨gb173, 1, none⟩) (Kd.V_far (p := ⟨gb173, 0, none⟩) (Kd.V_mono HO187.out (fun k_ hk => (⟨hk, hk.2⟩ : _ ∧ k_ ≠ gb173))) (fun _ hk => hk.2) (.slice Ao18 t179.length co18)) (fun _ hk => hk.2) (.int .i64 t182)) (fun _ hk => hk.1.1.1), by repeat (first | (with_reducible first | exact HB.out | apply below_alloc | apply pw_below_drewN | apply below_drew1 | refine below_set ?_ GE172.out | refine below_set ?_ GE173.out) | exact HB.out)⟩
    · rw [if_neg c6] at H
      exact absurd H (by simp)
  · rw [if_neg c5] at H
    exact absurd H (by simp)

/-! ### queue_Pop_string: function 23, by hand -/
def queue_Pop_string.f (l0_0 : List ByteArray) (a0_1 : Int) : Option (List ByteArray × Int × ByteArray × Int) := if l0_0.length = 0 then some (l0_0, a0_1, (⟨#[]⟩ : ByteArray), 10) else some (l0_0.drop 1, a0_1, rdOf ByteArray.empty l0_0 0, 0)
theorem queue_Pop_string.drain1 (l : List ByteArray) (c : Int) : queue_Drain_string.f l c 1 = some (l.drop 1, c, l.take 1) := by
  unfold queue_Drain_string.f queue_Queue_string_with.f
  cases l with
  | nil =>
    have e : mx 0 (mn 1 (([] : List ByteArray).length : Int)) = 0 := by decide
    rw [e, if_pos (by decide), if_pos (by decide)]; rfl
  | cons x l =>
    have e : mx 0 (mn 1 ((x :: l).length : Int)) = 1 := by unfold mx mn; simp only [List.length_cons]; repeat' split
                                                           all_goals omega
    rw [e, if_pos (by decide), if_pos (by simp only [List.length_cons]; omega)]; rfl
def queue_Pop_string.T4 : Bool × List (List Nat × List Nat) := (true, [([], []), ([], []), ([1], [1]), ([2], [2]), ([], []), ([0, 0], [0]), ([3, 5, 0, 1, 2, 3, 5], [3]), ([4, 6, 0, 1, 2, 3, 4, 5, 6], [4])])
def queue_Pop_string.B4 : List Nat := [0, 0, 2, 6, 0, 1, 47, 127]
theorem queue_Pop_string.tab4 : rtab .any (opsOf Try.f23 4) = queue_Pop_string.T4 := by kernel_rfl
theorem queue_Pop_string.bits4 : waitsOk queue_Pop_string.T4.2 queue_Pop_string.B4 = true := by kernel_rfl
set_option maxHeartbeats 8000000 in
set_option maxRecDepth 100000 in
theorem queue_Pop_string.calls (P0_0_ : Nat → Prop) (A0_0 : Option Addr) (c0_0 : Nat) (l0_0 : List ByteArray) (a0_1 : Int) (r1 : List ByteArray) (r2 : Int) (r3 : ByteArray) (r4 : Int) (w : World) (hs0_0 : Kd.V Kd.string 9 w w.heap.size (fun k_ => P0_0_ k_) (.slice A0_0 l0_0.length c0_0) l0_0) (h : queue_Pop_string.f l0_0 a0_1 = some (r1, r2, r3, r4)) :
    Calls Try.prog 23 #[.agg #[.slice A0_0 l0_0.length c0_0, .int .i64 a0_1]] w fun e w' => ∃ v0_ : Value, e = .returned (.tuple #[.agg #[v0_, .int .i64 r2], .string r3, .int .i64 r4]) ∧ Kd.V Kd.string 9 w' w.heap.size (fun k_ => (P0_0_ k_ ∨ w.heap.size ≤ k_)) v0_ r1 ∧ Below w.heap.size w w' := by
  unfold queue_Pop_string.f at h
  have HV := Aside0.mk hs0_0
  have HVW := Aside0.mk (show Kd.V Kd.string 9 ((w.alloc (.cells #[.slice A0_0 l0_0.length c0_0, .int .i64 a0_1] 49)).alloc (.cells #[.slice none 0 0, .int .i64 0] 49)) ((w.alloc (.cells #[.slice A0_0 l0_0.length c0_0, .int .i64 a0_1] 49)).alloc (.cells #[.slice none 0 0, .int .i64 0] 49)).heap.size (fun k_ => P0_0_ k_ ∧ k_ < w.heap.size) (.slice A0_0 l0_0.length c0_0) l0_0 from Kd.V_alloc (Kd.V_alloc (Kd.V_bound HV.out) _) _)
  have HB := Aside0.mk (show Below w.heap.size w ((w.alloc (.cells #[.slice A0_0 l0_0.length c0_0, .int .i64 a0_1] 49)).alloc (.cells #[.slice none 0 0, .int .i64 0] 49)) from (((Below.refl _ _).alloc (Nat.le_refl _) _).alloc (by simp) _))
  have HC := Aside0.mk (show ((w.alloc (.cells #[.slice A0_0 l0_0.length c0_0, .int .i64 a0_1] 49)).alloc (.cells #[.slice none 0 0, .int .i64 0] 49)).heap[w.heap.size]? = some (.cells #[.slice A0_0 l0_0.length c0_0, .int .i64 a0_1] 49 (0, 0)) from blk_alloc (blk_new _ _) _)
  have HG := Aside0.mk (show ((w.alloc (.cells #[.slice A0_0 l0_0.length c0_0, .int .i64 a0_1] 49)).alloc (.cells #[.slice none 0 0, .int .i64 0] 49)).heap[w.heap.size + 1]? = some (.cells #[.slice none 0 0, .int .i64 0] 49 (0, 0)) from (by have h2 := blk_new (w.alloc (.cells #[.slice A0_0 l0_0.length c0_0, .int .i64 a0_1] 49)) (.cells #[.slice none 0 0, .int .i64 0] 49); rw [World.size_alloc] at h2; exact h2))
  have HD := Aside0.mk (queue_Pop_string.drain1 l0_0 a0_1)
  have HP : Aside0 (∀ k, ((P0_0_ k ∧ k < w.heap.size) ∨ ((w.alloc (.cells #[.slice A0_0 l0_0.length c0_0, .int .i64 a0_1] 49)).alloc (.cells #[.slice none 0 0, .int .i64 0] 49)).heap.size ≤ k) → k ≠ w.heap.size + 1 ∧ (P0_0_ k ∨ w.heap.size ≤ k)) := by
    refine ⟨fun k hk => ?_⟩
    have e : ((w.alloc (.cells #[.slice A0_0 l0_0.length c0_0, .int .i64 a0_1] 49)).alloc (.cells #[.slice none 0 0, .int .i64 0] 49)).heap.size = w.heap.size + 2 := by simp
    rcases hk with hk | hk
    · exact ⟨by have := hk.2; omega, .inl hk.1⟩
    · exact ⟨by omega, .inr (by omega)⟩
  clear hs0_0
  by_cases c3 : l0_0.length = 0
  · rw [if_pos c3] at h
    simp only [Option.some.injEq, Prod.mk.injEq] at h
    obtain ⟨rfl, rfl, rfl, rfl⟩ := h
    have h30 : (l0_0.take 1).length = 0 := by rw [List.length_take]; omega
    have H30 := Aside0.mk h30
    clear c3 h30
    go_enter Try.func23, Try.ntmps23
    go_wp2_with (go_at_call 22; (with_reducible refine (queue_Drain_string.calls _ A0_0 c0_0 l0_0 a0_1 1 _ _ _ _ HVW.out HD.out).mono ?_); rintro e w1 ⟨v0, v2, rfl, hv0, hv2, hb⟩; obtain ⟨A0, c0, rfl⟩ := Kd.V_slice hv0; obtain ⟨A2, c2, rfl⟩ := Kd.V_slice hv2; rw [H30.out] at *; have HVa := Aside0.mk hv0; have HVq := Aside0.mk (Kd.V_below HVW.out hb); have HB1 := Aside0.mk (HB.out.trans (hb.mono HB.out.size)); have HG1 := Aside0.mk (blk_below HG.out hb); have HC1 := Aside0.mk (blk_below HC.out hb); clear hv0 hv2 hb; have q0 : w1.cell? ⟨w.heap.size + 1, 0, none⟩ = some (.slice none 0 0) := (blk_cell HG1.out 0).trans rfl; have q1 : w1.cell? ⟨w.heap.size + 1, 1, none⟩ = some (.int .i64 0) := (blk_cell HG1.out 1).trans rfl; have q2 := blk_frozen HG1.out 0; have q3 := blk_frozen HG1.out 1; have q4 : w1.cell? ⟨w.heap.size, 0, none⟩ = some (.slice A0_0 l0_0.length c0_0) := (blk_cell HC1.out 0).trans rfl; have q5 : w1.cell? ⟨w.heap.size, 1, none⟩ = some (.int .i64 a0_1) := (blk_cell HC1.out 1).trans rfl)
    refine bodyPost_ret (results_ctt rfl _ _ (w.heap.size + 1) 49 #[.slice A0_0 l0_0.length c0_0, .int .i64 a0_1] (0, 0) _ rfl (by refine blk_put (cs := #[.slice A0_0 l0_0.length c0_0, .int .i64 a0_1]) ?_ 1 _ rfl; refine blk_put (cs := #[.slice A0 (l0_0.length - 1) c0, .int .i64 a0_1]) ?_ 0 _ rfl; refine blk_put (cs := #[.slice A0 (l0_0.length - 1) c0, .int .i64 0]) ?_ 1 _ rfl; refine blk_put (cs := #[.slice none 0 0, .int .i64 0]) ?_ 0 _ rfl; exact HG1.out) Try.underlying49 rfl (by kernel_rfl)) rfl ?_
    refine ⟨_, rfl, Kd.V_mono (Kd.V_far (p := ⟨w.heap.size + 1, 1, none⟩) (Kd.V_far (p := ⟨w.heap.size + 1, 0, none⟩) (Kd.V_far (p := ⟨w.heap.size + 1, 1, none⟩) (Kd.V_far (p := ⟨w.heap.size + 1, 0, none⟩) HVq.out (fun k hk => ?_) _) (fun k hk => ?_) _) (fun k hk => ?_) _) (fun k hk => ?_) _) (fun k hk => .inl hk.1), below_set (below_set (below_set (below_set HB1.out (by omega)) (by omega)) (by omega)) (by omega)⟩
    all_goals (have := hk.2; show k ≠ w.heap.size + 1; omega)
  · rw [if_neg c3] at h
    simp only [Option.some.injEq, Prod.mk.injEq] at h
    obtain ⟨rfl, rfl, rfl, rfl⟩ := h
    have H34 := Aside0.mk (show 0 < l0_0.length by omega)
    have H31 := Aside0.mk (show (l0_0.take 1).length = 1 by rw [List.length_take]; omega)
    have H32 := Aside0.mk (show rdOf ByteArray.empty (l0_0.take 1) 0 = rdOf ByteArray.empty l0_0 0 by unfold rdOf; cases l0_0 with | nil => rfl | cons x l => rfl)
    clear c3
    go_enter Try.func23, Try.ntmps23
    go_wp2_with (go_at_call 22; (with_reducible refine (queue_Drain_string.calls _ A0_0 c0_0 l0_0 a0_1 1 _ _ _ _ HVW.out HD.out).mono ?_); rintro e w1 ⟨v0, v2, rfl, hv0, hv2, hb⟩; obtain ⟨A0, c0, rfl⟩ := Kd.V_slice hv0; obtain ⟨A2, c2, rfl⟩ := Kd.V_slice hv2; rw [H31.out] at *; have HVa := Aside0.mk (Kd.V_mono hv0 HP.out); have HV2 := Aside0.mk (Kd.V_mono hv2 HP.out); have HVq := Aside0.mk (Kd.V_below HVW.out hb); have HB1 := Aside0.mk (HB.out.trans (hb.mono HB.out.size)); have HG1 := Aside0.mk (blk_below HG.out hb); have HC1 := Aside0.mk (blk_below HC.out hb); clear hv0 hv2 hb; have q0 : w1.cell? ⟨w.heap.size + 1, 0, none⟩ = some (.slice none 0 0) := (blk_cell HG1.out 0).trans rfl; have q1 : w1.cell? ⟨w.heap.size + 1, 1, none⟩ = some (.int .i64 0) := (blk_cell HG1.out 1).trans rfl; have q2 := blk_frozen HG1.out 0; have q3 := blk_frozen HG1.out 1; have q4 : w1.cell? ⟨w.heap.size, 0, none⟩ = some (.slice A0_0 l0_0.length c0_0) := (blk_cell HC1.out 0).trans rfl; have q5 : w1.cell? ⟨w.heap.size, 1, none⟩ = some (.int .i64 a0_1) := (blk_cell HC1.out 1).trans rfl)
    rw [List.length_drop] at *
    have HV3 := Aside0.mk (Kd.V_drew (Kd.V_far (p := ⟨w.heap.size + 1, 1, none⟩) (Kd.V_far (p := ⟨w.heap.size + 1, 0, none⟩) HV2.out (fun k hk => hk.1) (.slice A0 (l0_0.length - 1) c0)) (fun k hk => hk.1) (.int .i64 a0_1)))
    have HVb := Aside0.mk (Kd.V_drew (Kd.V_far (p := ⟨w.heap.size + 1, 1, none⟩) (Kd.V_far (p := ⟨w.heap.size + 1, 0, none⟩) HVa.out (fun k hk => hk.1) (.slice A0 (l0_0.length - 1) c0)) (fun k hk => hk.1) (.int .i64 a0_1)))
    have HB2 := Aside0.mk (below_drew1 (below_set (j := 1) (v := .int .i64 a0_1) (below_set (j := 0) (v := .slice A0 (l0_0.length - 1) c0) HB1.out (show w.heap.size ≤ w.heap.size + 1 by omega)) (show w.heap.size ≤ w.heap.size + 1 by omega)))
    have HG2 := Aside0.mk (blk_drew (blk_put (cs := #[.slice A0 (l0_0.length - 1) c0, .int .i64 0]) (cs' := #[.slice A0 (l0_0.length - 1) c0, .int .i64 a0_1]) (blk_put (cs := #[.slice none 0 0, .int .i64 0]) HG1.out 0 (.slice A0 (l0_0.length - 1) c0) rfl) 1 (.int .i64 a0_1) rfl))
    obtain ⟨ad, e, hc⟩ := Kd.at_string (Kd.V_reads' HV3.out).2.2 0 (by decide) (by rw [List.length_take]; have := H34.out; omega)
    cases e
    rw [H32.out] at hc
    rw [show ad.add (Int.toNat 0) = ad from rfl] at hc
    have HC2 := Aside0.mk hc
    clear hc q0 q1 q2 q3 q4 q5
    refine start_ (n := 8) (S := fun w' => w'.cell? ⟨w.heap.size + 1, 0, none⟩ = some (.slice A0 (l0_0.length - 1) c0) ∧ w'.cell? ⟨w.heap.size + 1, 1, none⟩ = some (.int .i64 a0_1) ∧ w'.cell? ad = some (.string (rdOf ByteArray.empty l0_0 0))) (ds := []) #[false, false, false, false, false, false, false, false] (by kernel_rfl) rfl rfl ?_ (fun hHeld => ?_)
    · exact ⟨(blk_cell HG2.out 0).trans rfl, (blk_cell HG2.out 1).trans rfl, HC2.out⟩
    refine with_tabW queue_Pop_string.tab4 queue_Pop_string.bits4 (fun HT_ HW_ => ?_)
    generalize ((w1.setCell ⟨w.heap.size + 1, 0, none⟩ (.slice A0 (l0_0.length - 1) c0)).setCell ⟨w.heap.size + 1, 1, none⟩ (.int .i64 a0_1)).drew = W0 at HV3 HVb HB2 HG2 HC2 hHeld ⊢
    refine pure_ (i := 1) (N := some 17) (v := ?_) (a' := ?_) #[false, true, false, false, false, false, false, false] rfl rfl (any_of HT_.out (by kernel_rfl)) (fun _ _ _ h => h) (Or.inl ⟨by rfl, ?_⟩) ?_ ?_
    rotate_left
    · intro w'
      go_simp
      with_reducible rfl
    rotate_left
    · simp only [Act.put, List.setIfInBounds_toArray, List.set_cons_zero, List.set_cons_succ, i64_w, i32_w]
      rfl
    refine pure_ (i := 2) (N := some 18) (v := ?_) (a' := ?_) #[false, true, true, false, false, false, false, false] rfl rfl (any_of HT_.out (by kernel_rfl)) (fun _ _ _ h => h) (Or.inl ⟨by rfl, ?_⟩) ?_ ?_
    rotate_left
    · intro w'
      go_simp
      with_reducible rfl
    rotate_left
    · simp only [Act.put, List.setIfInBounds_toArray, List.set_cons_zero, List.set_cons_succ, i64_w, i32_w]
      rfl
    refine pure_ (i := 4) (N := some 20) (v := ?_) (a' := ?_) #[false, true, true, false, true, false, false, false] rfl rfl (any_of HT_.out (by kernel_rfl)) (fun _ _ _ h => h) (Or.inl ⟨by rfl, ?_⟩) ?_ ?_
    rotate_left
    · intro w'
      go_simp
      with_reducible rfl
    rotate_left
    · simp only [Act.put, List.setIfInBounds_toArray, List.set_cons_zero, List.set_cons_succ, i64_w, i32_w]
      rfl
    refine take_ (i := 0) (N := some 16) (v := ?_) (a' := ?_) #[true, true, true, false, true, false, false, false] rfl rfl (take_ofW HT_.out HW_.out (by kernel_rfl)) (fun _ _ _ h => h) (Or.inl ⟨by rfl, ?_⟩) hHeld ?_ ?_
    rotate_left
    · rintro w' ⟨s0, s1, s2⟩
      try simp only [Int.toNat_natCast] at s0 s1 s2
      go_simp
      with_reducible rfl
    rotate_left
    · simp only [Act.put, List.setIfInBounds_toArray, List.set_cons_zero, List.set_cons_succ, i64_w, i32_w]
      rfl
    refine take_ (i := 3) (N := some 19) (v := ?_) (a' := ?_) #[true, true, true, true, true, false, false, false] rfl rfl (take_ofW HT_.out HW_.out (by kernel_rfl)) (fun _ _ _ h => h) (Or.inl ⟨by rfl, ?_⟩) hHeld ?_ ?_
    rotate_left
    · rintro w' ⟨s0, s1, s2⟩
      try simp only [Int.toNat_natCast] at s0 s1 s2
      go_simp
      with_reducible rfl
    rotate_left
    · simp only [Act.put, List.setIfInBounds_toArray, List.set_cons_zero, List.set_cons_succ, i64_w, i32_w]
      rfl
    refine one_ (i := 5) (N := none) #[true, true, true, true, true, true, false, false] rfl rfl (one_of HT_.out (by kernel_rfl)) (by decide) (fun K hK => ?_)
    have q0 : W0.cell? ⟨w.heap.size + 1, 0, none⟩ = some (.slice A0 (l0_0.length - 1) c0) := (blk_cell HG2.out 0).trans rfl
    have q1 : W0.cell? ⟨w.heap.size + 1, 1, none⟩ = some (.int .i64 a0_1) := (blk_cell HG2.out 1).trans rfl
    have q2 := blk_frozen HG2.out 0
    have q3 := blk_frozen HG2.out 1
    refine skip_ (w1 := ?_) (by rfl) rfl ?_ ?_
    rotate_left
    · go_simp
      rfl
    have HG3 := Aside0.mk (blk_put (cs := #[.slice A0 (l0_0.length - 1) c0, .int .i64 a0_1]) (cs' := #[.slice A0 (l0_0.length - 1) c0, .int .i64 a0_1]) (blk_put (cs := #[.slice A0 (l0_0.length - 1) c0, .int .i64 a0_1]) HG2.out 0 (.slice A0 (l0_0.length - 1) c0) rfl) 1 (.int .i64 a0_1) rfl)
    have HV4 := Aside0.mk (Kd.V_far (p := ⟨w.heap.size + 1, 1, none⟩) (Kd.V_far (p := ⟨w.heap.size + 1, 0, none⟩) HV3.out (fun k hk => hk.1) (.slice A0 (l0_0.length - 1) c0)) (fun k hk => hk.1) (.int .i64 a0_1))
    obtain ⟨ad2, e2, hc2⟩ := Kd.at_string (Kd.V_reads' (n := 1) HV4.out).2.2 0 (by decide) (by rw [List.length_take]; have := H34.out; omega)
    cases e2
    rw [H32.out] at hc2
    rw [show ad.add (Int.toNat 0) = ad from rfl] at hc2
    refine hK.out _ _ ⟨(blk_cell HG3.out 0).trans rfl, (blk_cell HG3.out 1).trans rfl, hc2⟩ (fun hHeld4 => ?_)
    clear hK K
    refine pure_ (i := 6) (N := some 3) (v := ?_) (a' := ?_) #[true, true, true, true, true, true, true, false] rfl rfl (any_of HT_.out (by kernel_rfl)) (fun _ _ _ h => h) (Or.inl ⟨by rfl, ?_⟩) ?_ ?_
    rotate_left
    · intro w'
      go_simp
      with_reducible rfl
    rotate_left
    · simp only [Act.put, List.setIfInBounds_toArray, List.set_cons_zero, List.set_cons_succ, i64_w, i32_w]
      rfl
    refine pure_ (i := 7) (N := some 4) (v := ?_) (a' := ?_) #[true, true, true, true, true, true, true, true] rfl rfl (any_of HT_.out (by kernel_rfl)) (fun _ _ _ h => h) (Or.inl ⟨by rfl, ?_⟩) ?_ ?_
    rotate_left
    · intro w'
      go_simp
      with_reducible rfl
    rotate_left
    · simp only [Act.put, List.setIfInBounds_toArray, List.set_cons_zero, List.set_cons_succ, i64_w, i32_w]
      rfl
    refine done_ (done_of HT_.out (by kernel_rfl)) ?_
    try go_wp2
    refine bodyPost_ret (results_ctt rfl _ _ (w.heap.size + 1) 49 #[.slice A0 (l0_0.length - 1) c0, .int .i64 a0_1] (0, 0) _ rfl HG3.out Try.underlying49 rfl (by kernel_rfl)) rfl ?_
    exact ⟨_, rfl, Kd.V_mono (Kd.V_far (p := ⟨w.heap.size + 1, 1, none⟩) (Kd.V_far (p := ⟨w.heap.size + 1, 0, none⟩) HVb.out (fun k hk => hk.1) _) (fun k hk => hk.1) _) (fun k hk => hk.2), below_set (below_set HB2.out (by omega)) (by omega)⟩
/-! ### queue_Len_string: function 24 -/
def queue_Len_string.f (l0_0 : List ByteArray) (a0_1 : Int) : Option (Int) := some (l0_0.length : Int)
set_option maxHeartbeats 8000000 in
set_option maxRecDepth 100000 in
theorem queue_Len_string.calls (A0_0 : Option Addr) (c0_0 : Nat) (l0_0 : List ByteArray) (a0_1 : Int) (r : Int) (w : World) (hr0_0 : Kd.C Kd.string w A0_0 l0_0.length l0_0) (hc0_0 : l0_0.length ≤ c0_0) (h : queue_Len_string.f l0_0 a0_1 = some r) :
    Calls Try.prog 24 #[.agg #[.slice A0_0 l0_0.length c0_0, .int .i64 a0_1]] w fun e w' => e = .returned (.int .i64 r) ∧ Below w.heap.size w w' := by
  have hu49 := Try.underlying49
  have HR0_0 := Aside0.mk hr0_0
  have HC0_0 := Aside0.mk hc0_0
  clear hr0_0 hc0_0
  have HB := Aside0.mk (Below.refl w.heap.size w)
  have H : (some (l0_0.length : Int)) = some r := h
  clear h
  obtain rfl := Option.some.inj H
  go_enter Try.func24, Try.ntmps24
  go_wp2_with (first | ((with_reducible refine gate_dst (N := 1) rfl ?_); refine box_event ?hg (N := 1) ?hd (cs := #[.slice A0_0 l0_0.length c0_0, .int .i64 a0_1]) (t := 49) ?hr ?_; (case hd => rfl); (case hg => rfl); (case hr => first | (go_simp; done) | (go_simp; rfl)); intro gb188 hg w2 hbox hb; have n0_ := Aside0.mk (below_step (by repeat (first | (with_reducible first | exact HB.out | apply below_alloc | apply pw_below_drewN | apply below_drew1) | exact HB.out)) hb); have n1_ := Aside0.mk (hbox); have n2_ := Aside0.mk ((by rw [hg]; exact (below_size (by repeat (first | (with_reducible first | exact HB.out | apply below_alloc | apply pw_below_drewN | apply below_drew1) | exact HB.out))) : w.heap.size ≤ gb188)); have n3_ := Aside0.mk ((by rw [hg]; exact (below_size (by repeat (first | (with_reducible first | exact HB.out | apply below_alloc | apply pw_below_drewN | apply below_drew1) | exact HB.out))) : w.heap.size ≤ gb188)); clear HB; have HB := n0_; have BK188 := n1_; have GW188 := n2_; have GE188 := n3_; clear n0_ n1_ n2_ n3_; clear hb hbox hg; have hcz3_0 : w2.cell? ⟨gb188, 0, none⟩ = some (.slice A0_0 l0_0.length c0_0) := (blk_cell BK188.out 0).trans rfl; have hcz3_1 : w2.cell? ⟨gb188, 1, none⟩ = some (.int .i64 a0_1) := (blk_cell BK188.out 1).trans rfl; have hfz3_0 := blk_frozen BK188.out 0; have hfz3_1 := blk_frozen BK188.out 1))
  go_ret
  exact ⟨by first | rfl | (simp [errW_none, errW_some] <;> rfl) | (simp [*, errW_none, errW_some] <;> rfl), by repeat (first | (with_reducible first | exact HB.out | apply below_alloc | apply pw_below_drewN | apply below_drew1 | refine below_set ?_ GE188.out) | exact HB.out)⟩

end Go.Proofs.Ytoefbobjiepbeaa.MQueueTexts
