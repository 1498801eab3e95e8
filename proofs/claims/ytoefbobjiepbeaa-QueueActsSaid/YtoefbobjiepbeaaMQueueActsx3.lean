/- The functions that the law reaches in plain Lean, and that the calls come to what these say. No condition. (By wip/myprint.py, this session's program over the kit's print.) -/
import Derived.Test.YtoefbobjiepbeaaMQueueActsx0
namespace Go.Proofs.Ytoefbobjiepbeaa.MQueueActs
open Go.RowKit Go.Proofs.YtoefbobjiepbeaaW.PrintWords Go.Proofs.YtoefbobjiepbeaaW.PrintLast Go.Proofs.YtoefbobjiepbeaaW.PrintMore
attribute [local go_sem] max2_int min2_int max_two min_two max_three min_three max_four min_four   -- for this text's walks alone
set_option linter.unusedVariables false
set_option linter.unusedSimpArgs false

/-! ### mortmainref02_Drain: function 16 -/
def mortmainref02_Drain.f (l0_0 : List Int) (a0_1 : Int) (a1 : Int) : Option (List Int × Int × List Int) := if a1 < 0 then (if 0 > (l0_0.length : Int) then (if 0 ≤ (l0_0.length : Int) then (if (l0_0.length : Int) ≤ (l0_0.length : Int) then (some ((l0_0.drop ((l0_0.length : Int) : Int).toNat), a0_1, (l0_0.take ((l0_0.length : Int) : Int).toNat))) else (none)) else (none)) else (if 0 ≤ (l0_0.length : Int) then (some ((l0_0.drop 0), a0_1, (l0_0.take 0))) else (none))) else (if a1 > (l0_0.length : Int) then (if 0 ≤ (l0_0.length : Int) then (if (l0_0.length : Int) ≤ (l0_0.length : Int) then (some ((l0_0.drop ((l0_0.length : Int) : Int).toNat), a0_1, (l0_0.take ((l0_0.length : Int) : Int).toNat))) else (none)) else (none)) else (if 0 ≤ a1 then (if a1 ≤ (l0_0.length : Int) then (some ((l0_0.drop (a1 : Int).toNat), a0_1, (l0_0.take (a1 : Int).toNat))) else (none)) else (none)))
def mortmainref02_Drain.T5 : Bool × List (List Nat × List Nat) := (true, [([], []), ([0], [0]), ([], []), ([1, 2], [1, 2]), ([], []), ([4], [4]), ([3, 5], [3, 5]), ([], []), ([7], [7]), ([], []), ([8, 9], [8, 9]), ([6, 0, 1, 2, 3, 4, 5, 6], [6]), ([10, 11, 0, 1, 2, 3, 4, 5, 6, 7, 8, 9, 10, 11], [10])])
def mortmainref02_Drain.B5 : List Nat := [0, 1, 0, 7, 0, 16, 63, 0, 128, 0, 896, 127, 4095]
theorem mortmainref02_Drain.tab5 : rtab .any (opsOf Try.f16 5) = mortmainref02_Drain.T5 := by kernel_rfl
theorem mortmainref02_Drain.bits5 : waitsOk mortmainref02_Drain.T5.2 mortmainref02_Drain.B5 = true := by kernel_rfl
set_option maxHeartbeats 8000000 in
set_option maxRecDepth 100000 in
theorem mortmainref02_Drain.calls (P0_0_ : Nat → Prop) (A0_0 : Option Addr) (c0_0 : Nat) (l0_0 : List Int) (a0_1 : Int) (a1 : Int) (r1 : List Int) (r2 : Int) (r3 : List Int) (w : World) (hs0_0 : Kd.V (Kd.int .i64) 3 w w.heap.size (fun k_ => P0_0_ k_) (.slice A0_0 l0_0.length c0_0) l0_0) (h : mortmainref02_Drain.f l0_0 a0_1 a1 = some (r1, r2, r3)) :
    Calls Try.prog 16 #[.agg #[.slice A0_0 l0_0.length c0_0, .int .i64 a0_1], .int .i64 a1] w fun e w' => ∃ v0_ v2_ : Value, e = .returned (.tuple #[.agg #[v0_, .int .i64 r2], v2_]) ∧ Kd.V (Kd.int .i64) 3 w' w.heap.size (fun k_ => (P0_0_ k_ ∨ w.heap.size ≤ k_)) v0_ r1 ∧ Kd.V (Kd.int .i64) 3 w' w.heap.size (fun k_ => (P0_0_ k_ ∨ w.heap.size ≤ k_)) v2_ r3 ∧ Below w.heap.size w w' := by
  have hu29 := Try.underlying29
  have HO0_0 := Aside0.mk (show Kd.V (Kd.int .i64) 3 w w.heap.size (fun k_ => (P0_0_ k_ ∨ w.heap.size ≤ k_)) (.slice A0_0 l0_0.length c0_0) l0_0 from Kd.V_mono hs0_0 (fun k_ hk => .inl hk))
  have HB := Aside0.mk (Below.refl w.heap.size w)
  have H : (if a1 < 0 then (if 0 > (l0_0.length : Int) then (if 0 ≤ (l0_0.length : Int) then (if (l0_0.length : Int) ≤ (l0_0.length : Int) then (some ((l0_0.drop ((l0_0.length : Int) : Int).toNat), a0_1, (l0_0.take ((l0_0.length : Int) : Int).toNat))) else (none)) else (none)) else (if 0 ≤ (l0_0.length : Int) then (some ((l0_0.drop 0), a0_1, (l0_0.take 0))) else (none))) else (if a1 > (l0_0.length : Int) then (if 0 ≤ (l0_0.length : Int) then (if (l0_0.length : Int) ≤ (l0_0.length : Int) then (some ((l0_0.drop ((l0_0.length : Int) : Int).toNat), a0_1, (l0_0.take ((l0_0.length : Int) : Int).toNat))) else (none)) else (none)) else (if 0 ≤ a1 then (if a1 ≤ (l0_0.length : Int) then (some ((l0_0.drop (a1 : Int).toNat), a0_1, (l0_0.take (a1 : Int).toNat))) else (none)) else (none)))) = some (r1, r2, r3) := h
  clear h
  by_cases c3 : a1 < 0
  · rw [if_pos c3] at H
    have c3b0 : decide (a1 < 0) = true := decide_eq_true c3
    clear c3
    by_cases c4 : 0 > (l0_0.length : Int)
    · rw [if_pos c4] at H
      have c4b0 : decide ((l0_0.length : Int) < 0) = true := decide_eq_true c4
      have c4b1 : decide (l0_0.length < 0) = true := decide_eq_true (by omega)
      clear c4
      by_cases c5 : 0 ≤ (l0_0.length : Int)
      · rw [if_pos c5] at H
        have c5b0 := eq_true c5
        have c5b1 : decide (0 ≤ (l0_0.length : Int)) = true := decide_eq_true c5
        clear c5
        by_cases c6 : (l0_0.length : Int) ≤ (l0_0.length : Int)
        · rw [if_pos c6] at H
          have c6b0 := eq_true c6
          have c6b1 : decide ((l0_0.length : Int) ≤ (l0_0.length : Int)) = true := decide_eq_true c6
          clear c6
          obtain ⟨y196, hy196⟩ : ∃ y_ : List Int, y_ = (l0_0.drop ((l0_0.length : Int) : Int).toNat) := ⟨_, rfl⟩
          replace H : (some (y196, a0_1, (l0_0.take ((l0_0.length : Int) : Int).toNat))) = some (r1, r2, r3) := by first | (rw [hy196]; with_reducible exact H) | (have H2_ := (Option.bind_some _ _).symm.trans H; rw [hy196]; with_reducible exact H2_) | (have H2_ := (Option.bind_some _ _).symm.trans H; with_reducible exact H2_) | with_reducible exact H | (rw [hy196]; exact H) | exact H
          have Ny196 := Aside0.mk hy196
          clear hy196
          have c7b0 := eq_true (of_decide_eq_true (by first | (with_reducible assumption) | assumption) : 0 ≤ (l0_0.length : Int))
          have c8b0 := eq_true (of_decide_eq_true (by first | (with_reducible assumption) | assumption) : (l0_0.length : Int) ≤ (l0_0.length : Int))
          obtain ⟨y201, hy201⟩ : ∃ y_ : List Int, y_ = (l0_0.take ((l0_0.length : Int) : Int).toNat) := ⟨_, rfl⟩
          replace H : (some (y196, a0_1, y201)) = some (r1, r2, r3) := by first | (rw [hy201]; with_reducible exact H) | (have H2_ := (Option.bind_some _ _).symm.trans H; rw [hy201]; with_reducible exact H2_) | (have H2_ := (Option.bind_some _ _).symm.trans H; with_reducible exact H2_) | with_reducible exact H | (rw [hy201]; exact H) | exact H
          have Ny201 := Aside0.mk hy201
          clear hy201
          simp only [Option.some.injEq, Prod.mk.injEq] at H
          obtain ⟨rfl, rfl, rfl⟩ := H
          go_enter Try.func16, Try.ntmps16
          try go_wp2_with (first | ((with_reducible refine gate_dst (N := 2) rfl ?_); refine box_event ?hg (N := 2) ?hd (cs := #[.slice A0_0 l0_0.length c0_0, .int .i64 a0_1]) (t := 29) ?hr ?_; (case hd => rfl); (case hg => rfl); (case hr => first | (go_simp; done) | (go_simp; rfl)); intro gb194 hg w9 hbox hb; have n0_ := Aside0.mk (Kd.V_below (Kd.V_elderB (by (with_reducible repeat (first | apply Kd.V_alloc | apply Kd.V_drewN | apply Kd.V_drew)); exact HO0_0.out) gb194 (Nat.le_of_eq hg.symm)) hb); have n1_ := Aside0.mk (below_step (by repeat (first | (with_reducible first | exact HB.out | apply below_alloc | apply pw_below_drewN | apply below_drew1) | exact HB.out)) hb); have n2_ := Aside0.mk (hbox); have n3_ := Aside0.mk ((by rw [hg]; exact (below_size (by repeat (first | (with_reducible first | exact HB.out | apply below_alloc | apply pw_below_drewN | apply below_drew1) | exact HB.out))) : w.heap.size ≤ gb194)); have n4_ := Aside0.mk ((by rw [hg]; exact (below_size (by repeat (first | (with_reducible first | exact HB.out | apply below_alloc | apply pw_below_drewN | apply below_drew1) | exact HB.out))) : w.heap.size ≤ gb194)); clear HO0_0; clear HB; have HO0_0 := n0_; have HB := n1_; have BK194 := n2_; have GW194 := n3_; have GE194 := n4_; clear n0_ n1_ n2_ n3_ n4_; clear hb hbox hg) | ((with_reducible refine gate_dst (N := 4) rfl ?_); refine box_event ?hg (N := 4) ?hd (cs := #[.slice none 0 0, .int .i64 0]) (t := 29) ?hr ?_; (case hd => rfl); (case hg => rfl); (case hr => first | (go_simp; done) | (go_simp; rfl)); intro gb195 hg w10 hbox hb; have n0_ := Aside0.mk (Kd.V_below (Kd.V_elderB (by (with_reducible repeat (first | apply Kd.V_alloc | apply Kd.V_drewN | apply Kd.V_drew)); exact HO0_0.out) gb195 (Nat.le_of_eq hg.symm)) hb); have n1_ := Aside0.mk (blk_below (g := gb194) (o := .cells #[.slice A0_0 l0_0.length c0_0, .int .i64 a0_1] 29 (0, 0)) (by (with_reducible repeat (first | refine blk_drewN ?_ _ | refine blk_drew ?_ | refine blk_alloc ?_ _)); exact BK194.out) hb); have n2_ := Aside0.mk (below_step (by repeat (first | (with_reducible first | exact HB.out | apply below_alloc | apply pw_below_drewN | apply below_drew1 | refine below_set ?_ GE194.out) | exact HB.out)) hb); have n3_ := Aside0.mk (hbox); have n4_ := Aside0.mk ((by rw [hg]; exact (below_size (by repeat (first | (with_reducible first | exact HB.out | apply below_alloc | apply pw_below_drewN | apply below_drew1 | refine below_set ?_ GE194.out) | exact HB.out))) : w.heap.size ≤ gb195)); have n5_ := Aside0.mk ((by rw [hg]; exact (below_size (by repeat (first | (with_reducible first | exact HB.out | apply below_alloc | apply pw_below_drewN | apply below_drew1 | refine below_set ?_ GE194.out) | exact HB.out))) : w.heap.size ≤ gb195)); have n6_ := Aside0.mk ((by rw [hg]; exact Nat.ne_of_lt (blk_lt (g := gb194) (o := .cells #[.slice A0_0 l0_0.length c0_0, .int .i64 a0_1] 29 (0, 0)) (by (with_reducible repeat (first | refine blk_drewN ?_ _ | refine blk_drew ?_ | refine blk_alloc ?_ _)); exact BK194.out)) : gb194 ≠ gb195)); have n7_ := Aside0.mk ((by rw [hg]; exact Nat.ne_of_gt (blk_lt (g := gb194) (o := .cells #[.slice A0_0 l0_0.length c0_0, .int .i64 a0_1] 29 (0, 0)) (by (with_reducible repeat (first | refine blk_drewN ?_ _ | refine blk_drew ?_ | refine blk_alloc ?_ _)); exact BK194.out)) : gb195 ≠ gb194)); clear HO0_0; clear BK194; clear HB; have HO0_0 := n0_; have BK194 := n1_; have HB := n2_; have BK195 := n3_; have GW195 := n4_; have GE195 := n5_; have NB194_195 := n6_; have NB195_194 := n7_; clear n0_ n1_ n2_ n3_ n4_ n5_ n6_ n7_; clear hb hbox hg; have hnb11 := NB194_195.out; have hnc11 := NB195_194.out; have hcz12_0 : w10.cell? ⟨gb194, 0, none⟩ = some (.slice A0_0 l0_0.length c0_0) := (blk_cell BK194.out 0).trans rfl; have hcz12_1 : w10.cell? ⟨gb194, 1, none⟩ = some (.int .i64 a0_1) := (blk_cell BK194.out 1).trans rfl; have hfz12_0 := blk_frozen BK194.out 0; have hfz12_1 := blk_frozen BK194.out 1))
          have n0_ := Aside0.mk (Kd.V_drew HO0_0.out)
          have n1_ := Aside0.mk (blk_drew BK194.out)
          have n2_ := Aside0.mk (blk_drew BK195.out)
          have n3_ := Aside0.mk (below_drew1 HB.out)
          clear HO0_0
          clear BK194
          clear BK195
          clear HB
          have HO0_0 := n0_
          have BK194 := n1_
          have BK195 := n2_
          have HB := n3_
          clear n0_ n1_ n2_ n3_
          have q14 : ((l0_0.length : Int) : Int) ≤ ((l0_0.length : Int) : Int) := of_decide_eq_true (by first | (with_reducible assumption) | assumption)
          obtain ⟨i014, hi014, _, hsz14, _⟩ := info_parts info3
          have hroom14 : l0_0.length ≤ c0_0 := (Kd.V_reads' HO0_0.out).2.1
          have hC14 : Kd.F (Kd.int .i64) _ _ A0_0 l0_0.length l0_0 := (Kd.V_at (base := w.heap.size) HO0_0.out).2.2
          have q014 : (0 : Int) ≤ ((l0_0.length : Int) : Int) := of_decide_eq_true (by first | (with_reducible assumption) | assumption)
          have hcut14 := cut_from (P := Try.prog) 22 3 .i64 Try.underlying22 hi014 1 hsz14 A0_0 l0_0.length c0_0 (l0_0.length : Int) q014 q14
          have hr14 := Kd.F_cut (m := ((l0_0.length : Int) : Int).toNat) (c := c0_0) hC14 (by omega) hroom14
          obtain ⟨A14, hA14⟩ : ∃ A1, A1 = (if c0_0 = ((l0_0.length : Int) : Int).toNat then A0_0 else (A0_0 : Option Addr).map (·.add (((l0_0.length : Int) : Int).toNat * 1))) := ⟨_, rfl⟩
          obtain ⟨c14, hc14⟩ : ∃ c1, c1 = c0_0 - ((l0_0.length : Int) : Int).toNat := ⟨_, rfl⟩
          have hy14 : y196.length = l0_0.length - ((l0_0.length : Int) : Int).toNat := (by rw [Ny196.out, List.length_drop] <;> omega)
          rw [show (l0_0).drop ((l0_0.length : Int) : Int).toNat = y196 from Ny196.out.symm] at hr14
          replace hr14 : Kd.F (Kd.int .i64) _ _ A14 y196.length y196 := (by rw [hA14]; exact hr14)
          rw [← hy14, ← hA14, ← hc14] at hcut14
          have HO200 := Aside0.mk (show Kd.V (Kd.int .i64) 3 _ w.heap.size _ (.slice A14 y196.length c14) y196 from Kd.V_mk (by rw [hy14, hc14]; exact Nat.sub_le_sub_right hroom14 _) hr14)
          have HC200 := Aside0.mk (show y196.length ≤ c14 from by rw [hy14, hc14]; exact Nat.sub_le_sub_right hroom14 _)
          clear hr14 hC14 hroom14 hi014 hsz14 hc14
          have KY14 := Aside0.mk hy14
          have KA14 := Aside0.mk hA14
          clear hy14 hA14
          replace q14 := eq_true q14
          have q15 : ((l0_0.length : Int) : Int) ≤ ((l0_0.length : Int) : Int) := of_decide_eq_true (by first | (with_reducible assumption) | assumption)
          obtain ⟨i015, hi015, _, hsz15, _⟩ := info_parts info3
          have hroom15 : l0_0.length ≤ c0_0 := (Kd.V_reads' HO0_0.out).2.1
          have hC15 : Kd.F (Kd.int .i64) _ _ A0_0 l0_0.length l0_0 := (Kd.V_at (base := w.heap.size) HO0_0.out).2.2
          have hcut15 := cut_to (P := Try.prog) 22 3 .i64 Try.underlying22 hi015 A0_0 l0_0.length c0_0 (l0_0.length : Int) (of_decide_eq_true (by first | (with_reducible assumption) | assumption)) q15 hroom15
          have hr15 := Kd.F_take (m := ((l0_0.length : Int) : Int).toNat) hC15 (by omega)
          have hy15 : y201.length = ((l0_0.length : Int) : Int).toNat := (by rw [Ny201.out, List.length_take]; omega)
          rw [← Ny201.out] at hr15
          rw [← hy15] at hcut15
          have HO205 := Aside0.mk (show Kd.V (Kd.int .i64) 3 _ w.heap.size _ (.slice A0_0 y201.length c0_0) y201 from Kd.V_mk (by omega) hr15)
          have HC205 := Aside0.mk (show y201.length ≤ c0_0 from by omega)
          clear hr15 hC15 hroom15 hi015 hsz15
          have KY15 := Aside0.mk hy15
          clear hy15
          replace q15 := eq_true q15
          refine start_ (n := 13) (S := fun w' => w'.cell? ⟨gb194, 0, none⟩ = some (.slice A0_0 l0_0.length c0_0) ∧ w'.cell? ⟨gb194, 1, none⟩ = some (.int .i64 a0_1)) (ds := []) #[false, false, false, false, false, false, false, false, false, false, false, false, false] (by kernel_rfl) rfl rfl ⟨(blk_cell BK194.out 0).trans rfl, (blk_cell BK194.out 1).trans rfl⟩ (fun hHeld => ?_); refine with_tabW mortmainref02_Drain.tab5 mortmainref02_Drain.bits5 (fun HT_ HW_ => ?_)
          generalize w10.drew = w13 at HO0_0 BK194 BK195 HB HO200 HO205 hHeld ⊢
          refine pure_ (i := 0) (N := some 16) (v := ?_) (a' := ?_) #[true, false, false, false, false, false, false, false, false, false, false, false, false] rfl rfl (any_of HT_.out (by kernel_rfl)) (fun _ _ _ h => h) (Or.inl ⟨by rfl, ?_⟩) ?_ ?_
          rotate_left
          · intro w'
            go_simp
            with_reducible rfl
          rotate_left
          · simp only [Act.put, List.setIfInBounds_toArray, List.set_cons_zero, List.set_cons_succ, i64_w, i32_w]
            rfl
          refine pure_ (i := 2) (N := some 18) (v := ?_) (a' := ?_) #[true, false, true, false, false, false, false, false, false, false, false, false, false] rfl rfl (any_of HT_.out (by kernel_rfl)) (fun _ _ _ h => h) (Or.inl ⟨by rfl, ?_⟩) ?_ ?_
          rotate_left
          · intro w'
            go_simp
            with_reducible rfl
          rotate_left
          · simp only [Act.put, List.setIfInBounds_toArray, List.set_cons_zero, List.set_cons_succ, i64_w, i32_w]
            rfl
          refine pure_ (i := 4) (N := some 20) (v := ?_) (a' := ?_) #[true, false, true, false, true, false, false, false, false, false, false, false, false] rfl rfl (any_of HT_.out (by kernel_rfl)) (fun _ _ _ h => h) (Or.inl ⟨by rfl, ?_⟩) ?_ ?_
          rotate_left
          · intro w'
            go_simp
            with_reducible rfl
          rotate_left
          · simp only [Act.put, List.setIfInBounds_toArray, List.set_cons_zero, List.set_cons_succ, i64_w, i32_w]
            rfl
          refine pure_ (i := 7) (N := some 23) (v := ?_) (a' := ?_) #[true, false, true, false, true, false, false, true, false, false, false, false, false] rfl rfl (any_of HT_.out (by kernel_rfl)) (fun _ _ _ h => h) (Or.inl ⟨by rfl, ?_⟩) ?_ ?_
          rotate_left
          · intro w'
            go_simp
            with_reducible rfl
          rotate_left
          · simp only [Act.put, List.setIfInBounds_toArray, List.set_cons_zero, List.set_cons_succ, i64_w, i32_w]
            rfl
          refine pure_ (i := 9) (N := some 25) (v := ?_) (a' := ?_) #[true, false, true, false, true, false, false, true, false, true, false, false, false] rfl rfl (any_of HT_.out (by kernel_rfl)) (fun _ _ _ h => h) (Or.inl ⟨by rfl, ?_⟩) ?_ ?_
          rotate_left
          · intro w'
            go_simp
            with_reducible rfl
          rotate_left
          · simp only [Act.put, List.setIfInBounds_toArray, List.set_cons_zero, List.set_cons_succ, i64_w, i32_w]
            rfl
          refine take_ (i := 1) (N := some 17) (v := ?_) (a' := ?_) #[true, true, true, false, true, false, false, true, false, true, false, false, false] rfl rfl (take_ofW HT_.out HW_.out (by kernel_rfl)) (fun _ _ _ h => h) (Or.inl ⟨by rfl, ?_⟩) hHeld ?_ ?_
          rotate_left
          · rintro w' ⟨s0, s1⟩
            try simp only [Int.toNat_natCast] at s0 s1
            go_simp
            with_reducible rfl
          rotate_left
          · simp only [Act.put, List.setIfInBounds_toArray, List.set_cons_zero, List.set_cons_succ, i64_w, i32_w]
            rfl
          refine pure_ (i := 3) (N := some 19) (v := ?_) (a' := ?_) #[true, true, true, true, true, false, false, true, false, true, false, false, false] rfl rfl (any_of HT_.out (by kernel_rfl)) (fun _ _ _ h => h) (Or.inl ⟨by rfl, ?_⟩) ?_ ?_
          rotate_left
          · intro w'
            go_simp
            with_reducible rfl
          rotate_left
          · simp only [Act.put, List.setIfInBounds_toArray, List.set_cons_zero, List.set_cons_succ, i64_w, i32_w]
            rfl
          refine take_ (i := 5) (N := some 21) (v := ?_) (a' := ?_) #[true, true, true, true, true, true, false, true, false, true, false, false, false] rfl rfl (take_ofW HT_.out HW_.out (by kernel_rfl)) (fun _ _ _ h => h) (Or.inl ⟨by rfl, ?_⟩) hHeld ?_ ?_
          rotate_left
          · rintro w' ⟨s0, s1⟩
            try simp only [Int.toNat_natCast] at s0 s1
            go_simp
            with_reducible rfl
          rotate_left
          · simp only [Act.put, List.setIfInBounds_toArray, List.set_cons_zero, List.set_cons_succ, i64_w, i32_w]
            rfl
          refine pure_ (i := 6) (N := some 22) (v := ?_) (a' := ?_) #[true, true, true, true, true, true, true, true, false, true, false, false, false] rfl rfl (any_of HT_.out (by kernel_rfl)) (fun _ _ _ h => h) (Or.inl ⟨by rfl, ?_⟩) ?_ ?_
          rotate_left
          · intro w'
            go_simp
            with_reducible rfl
          rotate_left
          · simp only [Act.put, List.setIfInBounds_toArray, List.set_cons_zero, List.set_cons_succ, i64_w, i32_w]
            rfl
          refine take_ (i := 8) (N := some 24) (v := ?_) (a' := ?_) #[true, true, true, true, true, true, true, true, true, true, false, false, false] rfl rfl (take_ofW HT_.out HW_.out (by kernel_rfl)) (fun _ _ _ h => h) (Or.inl ⟨by rfl, ?_⟩) hHeld ?_ ?_
          rotate_left
          · rintro w' ⟨s0, s1⟩
            try simp only [Int.toNat_natCast] at s0 s1
            go_simp
            with_reducible rfl
          rotate_left
          · simp only [Act.put, List.setIfInBounds_toArray, List.set_cons_zero, List.set_cons_succ, i64_w, i32_w]
            rfl
          refine pure_ (i := 10) (N := some 26) (v := ?_) (a' := ?_) #[true, true, true, true, true, true, true, true, true, true, true, false, false] rfl rfl (any_of HT_.out (by kernel_rfl)) (fun _ _ _ h => h) (Or.inl ⟨by rfl, ?_⟩) ?_ ?_
          rotate_left
          · intro w'
            go_simp
            with_reducible rfl
          rotate_left
          · simp only [Act.put, List.setIfInBounds_toArray, List.set_cons_zero, List.set_cons_succ, i64_w, i32_w]
            rfl
          refine one_ (i := 11) (N := none) #[true, true, true, true, true, true, true, true, true, true, true, true, false] rfl rfl (one_of HT_.out (by kernel_rfl)) (by decide) (fun K hK => ?_)
          have hs16 : w13.cell? ⟨gb195, 0, none⟩ = some (.slice none 0 0) := (blk_cell BK195.out 0).trans rfl
          have hfs16 := blk_frozen BK195.out 0
          have hns16_0 := NB194_195.out
          have hms16_0 := NB195_194.out
          have hs17 : w13.cell? ⟨gb195, 1, none⟩ = some (.int .i64 0) := (blk_cell BK195.out 1).trans rfl
          have hfs17 := blk_frozen BK195.out 1
          have hns17_0 := NB194_195.out
          have hms17_0 := NB195_194.out
          refine skip_ (w1 := ?_) (by rfl) rfl ?_ ?_
          rotate_left
          · go_simp
            rfl
          refine hK.out _ _ ⟨((cell_far (p := ⟨gb195, _, none⟩) NB194_195.out _).trans (((cell_far (p := ⟨gb195, _, none⟩) NB194_195.out _).trans (hHeld.1)))), ((cell_far (p := ⟨gb195, _, none⟩) NB194_195.out _).trans (((cell_far (p := ⟨gb195, _, none⟩) NB194_195.out _).trans (hHeld.2))))⟩ (fun hHeld => ?_)
          clear hK K
          refine pure_ (i := 12) (N := some 5) (v := ?_) (a' := ?_) #[true, true, true, true, true, true, true, true, true, true, true, true, true] rfl rfl (any_of HT_.out (by kernel_rfl)) (fun _ _ _ h => h) (Or.inl ⟨by rfl, ?_⟩) ?_ ?_
          rotate_left
          · intro w'
            go_simp
            with_reducible rfl
          rotate_left
          · simp only [Act.put, List.setIfInBounds_toArray, List.set_cons_zero, List.set_cons_succ, i64_w, i32_w]
            rfl
          refine done_ (done_of HT_.out (by kernel_rfl)) ?_
          try go_wp2
          refine bodyPost_ret (results_ct rfl _ _ gb195 29 #[.slice A14 y196.length c14, .int .i64 a0_1] (0, 0) _ rfl (by (with_reducible repeat (first | refine blk_drewN ?_ _ | refine blk_drew ?_ | refine blk_alloc ?_ _)); refine blk_put (cs := #[.slice A14 y196.length c14, .int .i64 0]) ?_ 1 _ rfl; (with_reducible repeat (first | refine blk_drewN ?_ _ | refine blk_drew ?_ | refine blk_alloc ?_ _)); refine blk_put (cs := #[.slice none 0 0, .int .i64 0]) ?_ 0 _ rfl; (with_reducible repeat (first | refine blk_drewN ?_ _ | refine blk_drew ?_ | refine blk_alloc ?_ _)); exact BK195.out) Try.underlying29 rfl (by kernel_rfl)) rfl ?_
          exact ⟨_, _, by first | rfl | (simp [errW_none, errW_some] <;> rfl) | (simp [*, errW_none, errW_some] <;> rfl), by (with_reducible repeat (first | apply Kd.V_alloc | apply Kd.V_drewN | apply Kd.V_drew)); exact Kd.V_mono (Kd.V_far (p := ⟨gb195, 1, none⟩) (Kd.V_far (p := ⟨gb195, 0, none⟩) (Kd.V_mono HO200.out (fun k_ hk => (⟨hk, hk.2⟩ : _ ∧ k_ ≠ gb195))) (fun _ hk => hk.2) (.slice A14 y196.length c14)) (fun _ hk => hk.2) (.int .i64 a0_1)) (fun _ hk => hk.1.1.1), by (with_reducible repeat (first | apply Kd.V_alloc | apply Kd.V_drewN | apply Kd.V_drew)); exact Kd.V_mono (Kd.V_far (p := ⟨gb195, 1, none⟩) (Kd.V_far (p := ⟨gb195, 0, none⟩) (Kd.V_mono HO205.out (fun k_ hk => (⟨hk, hk.2⟩ : _ ∧ k_ ≠ gb195))) (fun _ hk => hk.2) (.slice A14 y196.length c14)) (fun _ hk => hk.2) (.int .i64 a0_1)) (fun _ hk => hk.1.1.1), by repeat (first | (with_reducible first | exact HB.out | apply below_alloc | apply pw_below_drewN | apply below_drew1 | refine below_set ?_ GE194.out | refine below_set ?_ GE195.out) | exact HB.out)⟩
        · rw [if_neg c6] at H
          exact absurd H (by simp)
      · rw [if_neg c5] at H
        exact absurd H (by simp)
    · rw [if_neg c4] at H
      have c4b0 : decide ((l0_0.length : Int) < 0) = false := decide_eq_false c4
      have c4b1 : decide (l0_0.length < 0) = false := decide_eq_false (by omega)
      clear c4
      by_cases c18 : 0 ≤ (l0_0.length : Int)
      · rw [if_pos c18] at H
        have c18b0 := eq_true c18
        have c18b1 : decide (0 ≤ (l0_0.length : Int)) = true := decide_eq_true c18
        clear c18
        obtain ⟨y206, hy206⟩ : ∃ y_ : List Int, y_ = (l0_0.drop 0) := ⟨_, rfl⟩
        replace H : (some (y206, a0_1, (l0_0.take 0))) = some (r1, r2, r3) := by first | (rw [hy206]; with_reducible exact H) | (have H2_ := (Option.bind_some _ _).symm.trans H; rw [hy206]; with_reducible exact H2_) | (have H2_ := (Option.bind_some _ _).symm.trans H; with_reducible exact H2_) | with_reducible exact H | (rw [hy206]; exact H) | exact H
        have Ny206 := Aside0.mk hy206
        clear hy206
        have c19b0 := eq_true (of_decide_eq_true (by first | (with_reducible assumption) | assumption) : 0 ≤ (l0_0.length : Int))
        obtain ⟨y211, hy211⟩ : ∃ y_ : List Int, y_ = (l0_0.take 0) := ⟨_, rfl⟩
        replace H : (some (y206, a0_1, y211)) = some (r1, r2, r3) := by first | (rw [hy211]; with_reducible exact H) | (have H2_ := (Option.bind_some _ _).symm.trans H; rw [hy211]; with_reducible exact H2_) | (have H2_ := (Option.bind_some _ _).symm.trans H; with_reducible exact H2_) | with_reducible exact H | (rw [hy211]; exact H) | exact H
        have Ny211 := Aside0.mk hy211
        clear hy211
        simp only [Option.some.injEq, Prod.mk.injEq] at H
        obtain ⟨rfl, rfl, rfl⟩ := H
        go_enter Try.func16, Try.ntmps16
        try go_wp2_with (first | ((with_reducible refine gate_dst (N := 2) rfl ?_); refine box_event ?hg (N := 2) ?hd (cs := #[.slice A0_0 l0_0.length c0_0, .int .i64 a0_1]) (t := 29) ?hr ?_; (case hd => rfl); (case hg => rfl); (case hr => first | (go_simp; done) | (go_simp; rfl)); intro gb194 hg w20 hbox hb; have n0_ := Aside0.mk (Kd.V_below (Kd.V_elderB (by (with_reducible repeat (first | apply Kd.V_alloc | apply Kd.V_drewN | apply Kd.V_drew)); exact HO0_0.out) gb194 (Nat.le_of_eq hg.symm)) hb); have n1_ := Aside0.mk (below_step (by repeat (first | (with_reducible first | exact HB.out | apply below_alloc | apply pw_below_drewN | apply below_drew1) | exact HB.out)) hb); have n2_ := Aside0.mk (hbox); have n3_ := Aside0.mk ((by rw [hg]; exact (below_size (by repeat (first | (with_reducible first | exact HB.out | apply below_alloc | apply pw_below_drewN | apply below_drew1) | exact HB.out))) : w.heap.size ≤ gb194)); have n4_ := Aside0.mk ((by rw [hg]; exact (below_size (by repeat (first | (with_reducible first | exact HB.out | apply below_alloc | apply pw_below_drewN | apply below_drew1) | exact HB.out))) : w.heap.size ≤ gb194)); clear HO0_0; clear HB; have HO0_0 := n0_; have HB := n1_; have BK194 := n2_; have GW194 := n3_; have GE194 := n4_; clear n0_ n1_ n2_ n3_ n4_; clear hb hbox hg) | ((with_reducible refine gate_dst (N := 4) rfl ?_); refine box_event ?hg (N := 4) ?hd (cs := #[.slice none 0 0, .int .i64 0]) (t := 29) ?hr ?_; (case hd => rfl); (case hg => rfl); (case hr => first | (go_simp; done) | (go_simp; rfl)); intro gb195 hg w21 hbox hb; have n0_ := Aside0.mk (Kd.V_below (Kd.V_elderB (by (with_reducible repeat (first | apply Kd.V_alloc | apply Kd.V_drewN | apply Kd.V_drew)); exact HO0_0.out) gb195 (Nat.le_of_eq hg.symm)) hb); have n1_ := Aside0.mk (blk_below (g := gb194) (o := .cells #[.slice A0_0 l0_0.length c0_0, .int .i64 a0_1] 29 (0, 0)) (by (with_reducible repeat (first | refine blk_drewN ?_ _ | refine blk_drew ?_ | refine blk_alloc ?_ _)); exact BK194.out) hb); have n2_ := Aside0.mk (below_step (by repeat (first | (with_reducible first | exact HB.out | apply below_alloc | apply pw_below_drewN | apply below_drew1 | refine below_set ?_ GE194.out) | exact HB.out)) hb); have n3_ := Aside0.mk (hbox); have n4_ := Aside0.mk ((by rw [hg]; exact (below_size (by repeat (first | (with_reducible first | exact HB.out | apply below_alloc | apply pw_below_drewN | apply below_drew1 | refine below_set ?_ GE194.out) | exact HB.out))) : w.heap.size ≤ gb195)); have n5_ := Aside0.mk ((by rw [hg]; exact (below_size (by repeat (first | (with_reducible first | exact HB.out | apply below_alloc | apply pw_below_drewN | apply below_drew1 | refine below_set ?_ GE194.out) | exact HB.out))) : w.heap.size ≤ gb195)); have n6_ := Aside0.mk ((by rw [hg]; exact Nat.ne_of_lt (blk_lt (g := gb194) (o := .cells #[.slice A0_0 l0_0.length c0_0, .int .i64 a0_1] 29 (0, 0)) (by (with_reducible repeat (first | refine blk_drewN ?_ _ | refine blk_drew ?_ | refine blk_alloc ?_ _)); exact BK194.out)) : gb194 ≠ gb195)); have n7_ := Aside0.mk ((by rw [hg]; exact Nat.ne_of_gt (blk_lt (g := gb194) (o := .cells #[.slice A0_0 l0_0.length c0_0, .int .i64 a0_1] 29 (0, 0)) (by (with_reducible repeat (first | refine blk_drewN ?_ _ | refine blk_drew ?_ | refine blk_alloc ?_ _)); exact BK194.out)) : gb195 ≠ gb194)); clear HO0_0; clear BK194; clear HB; have HO0_0 := n0_; have BK194 := n1_; have HB := n2_; have BK195 := n3_; have GW195 := n4_; have GE195 := n5_; have NB194_195 := n6_; have NB195_194 := n7_; clear n0_ n1_ n2_ n3_ n4_ n5_ n6_ n7_; clear hb hbox hg; have hnb22 := NB194_195.out; have hnc22 := NB195_194.out; have hcz23_0 : w21.cell? ⟨gb194, 0, none⟩ = some (.slice A0_0 l0_0.length c0_0) := (blk_cell BK194.out 0).trans rfl; have hcz23_1 : w21.cell? ⟨gb194, 1, none⟩ = some (.int .i64 a0_1) := (blk_cell BK194.out 1).trans rfl; have hfz23_0 := blk_frozen BK194.out 0; have hfz23_1 := blk_frozen BK194.out 1))
        have n0_ := Aside0.mk (Kd.V_drew HO0_0.out)
        have n1_ := Aside0.mk (blk_drew BK194.out)
        have n2_ := Aside0.mk (blk_drew BK195.out)
        have n3_ := Aside0.mk (below_drew1 HB.out)
        clear HO0_0
        clear BK194
        clear BK195
        clear HB
        have HO0_0 := n0_
        have BK194 := n1_
        have BK195 := n2_
        have HB := n3_
        clear n0_ n1_ n2_ n3_
        have q25 : (0 : Int) ≤ ((l0_0.length : Int) : Int) := of_decide_eq_true (by first | (with_reducible assumption) | assumption)
        obtain ⟨i025, hi025, _, hsz25, _⟩ := info_parts info3
        have hroom25 : l0_0.length ≤ c0_0 := (Kd.V_reads' HO0_0.out).2.1
        have hC25 : Kd.F (Kd.int .i64) _ _ A0_0 l0_0.length l0_0 := (Kd.V_at (base := w.heap.size) HO0_0.out).2.2
        have hcut25 := cut_from (P := Try.prog) 22 3 .i64 Try.underlying22 hi025 1 hsz25 A0_0 l0_0.length c0_0 0 (by omega) q25
        have hr25 := Kd.F_cut (m := (0 : Int).toNat) (c := c0_0) hC25 (by omega) hroom25
        obtain ⟨A25, hA25⟩ : ∃ A1, A1 = (if c0_0 = (0 : Int).toNat then A0_0 else (A0_0 : Option Addr).map (·.add ((0 : Int).toNat * 1))) := ⟨_, rfl⟩
        obtain ⟨c25, hc25⟩ : ∃ c1, c1 = c0_0 - (0 : Int).toNat := ⟨_, rfl⟩
        have hy25 : y206.length = l0_0.length - (0 : Int).toNat := (by rw [Ny206.out, List.length_drop] <;> omega)
        rw [show (l0_0).drop (0 : Int).toNat = y206 from Ny206.out.symm] at hr25
        replace hr25 : Kd.F (Kd.int .i64) _ _ A25 y206.length y206 := (by rw [hA25]; exact hr25)
        rw [← hy25, ← hA25, ← hc25] at hcut25
        have HO210 := Aside0.mk (show Kd.V (Kd.int .i64) 3 _ w.heap.size _ (.slice A25 y206.length c25) y206 from Kd.V_mk (by rw [hy25, hc25]; exact Nat.sub_le_sub_right hroom25 _) hr25)
        have HC210 := Aside0.mk (show y206.length ≤ c25 from by rw [hy25, hc25]; exact Nat.sub_le_sub_right hroom25 _)
        clear hr25 hC25 hroom25 hi025 hsz25 hc25
        have KY25 := Aside0.mk hy25
        have KA25 := Aside0.mk hA25
        clear hy25 hA25
        replace q25 := eq_true q25
        have q26 : (0 : Int) ≤ ((l0_0.length : Int) : Int) := of_decide_eq_true (by first | (with_reducible assumption) | assumption)
        obtain ⟨i026, hi026, _, hsz26, _⟩ := info_parts info3
        have hroom26 : l0_0.length ≤ c0_0 := (Kd.V_reads' HO0_0.out).2.1
        have hC26 : Kd.F (Kd.int .i64) _ _ A0_0 l0_0.length l0_0 := (Kd.V_at (base := w.heap.size) HO0_0.out).2.2
        have hcut26 := cut_to (P := Try.prog) 22 3 .i64 Try.underlying22 hi026 A0_0 l0_0.length c0_0 0 (by omega) q26 hroom26
        have hr26 := Kd.F_take (m := 0) hC26 (by omega)
        have hy26 : y211.length = (0 : Int).toNat := (by rw [Ny211.out, List.length_take]; omega)
        rw [← Ny211.out] at hr26
        rw [← hy26] at hcut26
        have HO215 := Aside0.mk (show Kd.V (Kd.int .i64) 3 _ w.heap.size _ (.slice A0_0 y211.length c0_0) y211 from Kd.V_mk (by omega) hr26)
        have HC215 := Aside0.mk (show y211.length ≤ c0_0 from by omega)
        clear hr26 hC26 hroom26 hi026 hsz26
        have KY26 := Aside0.mk hy26
        clear hy26
        replace q26 := eq_true q26
        refine start_ (n := 13) (S := fun w' => w'.cell? ⟨gb194, 0, none⟩ = some (.slice A0_0 l0_0.length c0_0) ∧ w'.cell? ⟨gb194, 1, none⟩ = some (.int .i64 a0_1)) (ds := []) #[false, false, false, false, false, false, false, false, false, false, false, false, false] (by kernel_rfl) rfl rfl ⟨(blk_cell BK194.out 0).trans rfl, (blk_cell BK194.out 1).trans rfl⟩ (fun hHeld => ?_); refine with_tabW mortmainref02_Drain.tab5 mortmainref02_Drain.bits5 (fun HT_ HW_ => ?_)
        generalize w21.drew = w24 at HO0_0 BK194 BK195 HB HO210 HO215 hHeld ⊢
        refine pure_ (i := 0) (N := some 16) (v := ?_) (a' := ?_) #[true, false, false, false, false, false, false, false, false, false, false, false, false] rfl rfl (any_of HT_.out (by kernel_rfl)) (fun _ _ _ h => h) (Or.inl ⟨by rfl, ?_⟩) ?_ ?_
        rotate_left
        · intro w'
          go_simp
          with_reducible rfl
        rotate_left
        · simp only [Act.put, List.setIfInBounds_toArray, List.set_cons_zero, List.set_cons_succ, i64_w, i32_w]
          rfl
        refine pure_ (i := 2) (N := some 18) (v := ?_) (a' := ?_) #[true, false, true, false, false, false, false, false, false, false, false, false, false] rfl rfl (any_of HT_.out (by kernel_rfl)) (fun _ _ _ h => h) (Or.inl ⟨by rfl, ?_⟩) ?_ ?_
        rotate_left
        · intro w'
          go_simp
          with_reducible rfl
        rotate_left
        · simp only [Act.put, List.setIfInBounds_toArray, List.set_cons_zero, List.set_cons_succ, i64_w, i32_w]
          rfl
        refine pure_ (i := 4) (N := some 20) (v := ?_) (a' := ?_) #[true, false, true, false, true, false, false, false, false, false, false, false, false] rfl rfl (any_of HT_.out (by kernel_rfl)) (fun _ _ _ h => h) (Or.inl ⟨by rfl, ?_⟩) ?_ ?_
        rotate_left
        · intro w'
          go_simp
          with_reducible rfl
        rotate_left
        · simp only [Act.put, List.setIfInBounds_toArray, List.set_cons_zero, List.set_cons_succ, i64_w, i32_w]
          rfl
        refine pure_ (i := 7) (N := some 23) (v := ?_) (a' := ?_) #[true, false, true, false, true, false, false, true, false, false, false, false, false] rfl rfl (any_of HT_.out (by kernel_rfl)) (fun _ _ _ h => h) (Or.inl ⟨by rfl, ?_⟩) ?_ ?_
        rotate_left
        · intro w'
          go_simp
          with_reducible rfl
        rotate_left
        · simp only [Act.put, List.setIfInBounds_toArray, List.set_cons_zero, List.set_cons_succ, i64_w, i32_w]
          rfl
        refine pure_ (i := 9) (N := some 25) (v := ?_) (a' := ?_) #[true, false, true, false, true, false, false, true, false, true, false, false, false] rfl rfl (any_of HT_.out (by kernel_rfl)) (fun _ _ _ h => h) (Or.inl ⟨by rfl, ?_⟩) ?_ ?_
        rotate_left
        · intro w'
          go_simp
          with_reducible rfl
        rotate_left
        · simp only [Act.put, List.setIfInBounds_toArray, List.set_cons_zero, List.set_cons_succ, i64_w, i32_w]
          rfl
        refine take_ (i := 1) (N := some 17) (v := ?_) (a' := ?_) #[true, true, true, false, true, false, false, true, false, true, false, false, false] rfl rfl (take_ofW HT_.out HW_.out (by kernel_rfl)) (fun _ _ _ h => h) (Or.inl ⟨by rfl, ?_⟩) hHeld ?_ ?_
        rotate_left
        · rintro w' ⟨s0, s1⟩
          try simp only [Int.toNat_natCast] at s0 s1
          go_simp
          with_reducible rfl
        rotate_left
        · simp only [Act.put, List.setIfInBounds_toArray, List.set_cons_zero, List.set_cons_succ, i64_w, i32_w]
          rfl
        refine pure_ (i := 3) (N := some 19) (v := ?_) (a' := ?_) #[true, true, true, true, true, false, false, true, false, true, false, false, false] rfl rfl (any_of HT_.out (by kernel_rfl)) (fun _ _ _ h => h) (Or.inl ⟨by rfl, ?_⟩) ?_ ?_
        rotate_left
        · intro w'
          go_simp
          with_reducible rfl
        rotate_left
        · simp only [Act.put, List.setIfInBounds_toArray, List.set_cons_zero, List.set_cons_succ, i64_w, i32_w]
          rfl
        refine take_ (i := 5) (N := some 21) (v := ?_) (a' := ?_) #[true, true, true, true, true, true, false, true, false, true, false, false, false] rfl rfl (take_ofW HT_.out HW_.out (by kernel_rfl)) (fun _ _ _ h => h) (Or.inl ⟨by rfl, ?_⟩) hHeld ?_ ?_
        rotate_left
        · rintro w' ⟨s0, s1⟩
          try simp only [Int.toNat_natCast] at s0 s1
          go_simp
          with_reducible rfl
        rotate_left
        · simp only [Act.put, List.setIfInBounds_toArray, List.set_cons_zero, List.set_cons_succ, i64_w, i32_w]
          rfl
        refine pure_ (i := 6) (N := some 22) (v := ?_) (a' := ?_) #[true, true, true, true, true, true, true, true, false, true, false, false, false] rfl rfl (any_of HT_.out (by kernel_rfl)) (fun _ _ _ h => h) (Or.inl ⟨by rfl, ?_⟩) ?_ ?_
        rotate_left
        · intro w'
          go_simp
          with_reducible rfl
        rotate_left
        · simp only [Act.put, List.setIfInBounds_toArray, List.set_cons_zero, List.set_cons_succ, i64_w, i32_w]
          rfl
        refine take_ (i := 8) (N := some 24) (v := ?_) (a' := ?_) #[true, true, true, true, true, true, true, true, true, true, false, false, false] rfl rfl (take_ofW HT_.out HW_.out (by kernel_rfl)) (fun _ _ _ h => h) (Or.inl ⟨by rfl, ?_⟩) hHeld ?_ ?_
        rotate_left
        · rintro w' ⟨s0, s1⟩
          try simp only [Int.toNat_natCast] at s0 s1
          go_simp
          with_reducible rfl
        rotate_left
        · simp only [Act.put, List.setIfInBounds_toArray, List.set_cons_zero, List.set_cons_succ, i64_w, i32_w]
          rfl
        refine pure_ (i := 10) (N := some 26) (v := ?_) (a' := ?_) #[true, true, true, true, true, true, true, true, true, true, true, false, false] rfl rfl (any_of HT_.out (by kernel_rfl)) (fun _ _ _ h => h) (Or.inl ⟨by rfl, ?_⟩) ?_ ?_
        rotate_left
        · intro w'
          go_simp
          with_reducible rfl
        rotate_left
        · simp only [Act.put, List.setIfInBounds_toArray, List.set_cons_zero, List.set_cons_succ, i64_w, i32_w]
          rfl
        refine one_ (i := 11) (N := none) #[true, true, true, true, true, true, true, true, true, true, true, true, false] rfl rfl (one_of HT_.out (by kernel_rfl)) (by decide) (fun K hK => ?_)
        have hs27 : w24.cell? ⟨gb195, 0, none⟩ = some (.slice none 0 0) := (blk_cell BK195.out 0).trans rfl
        have hfs27 := blk_frozen BK195.out 0
        have hns27_0 := NB194_195.out
        have hms27_0 := NB195_194.out
        have hs28 : w24.cell? ⟨gb195, 1, none⟩ = some (.int .i64 0) := (blk_cell BK195.out 1).trans rfl
        have hfs28 := blk_frozen BK195.out 1
        have hns28_0 := NB194_195.out
        have hms28_0 := NB195_194.out
        refine skip_ (w1 := ?_) (by rfl) rfl ?_ ?_
        rotate_left
        · go_simp
          rfl
        refine hK.out _ _ ⟨((cell_far (p := ⟨gb195, _, none⟩) NB194_195.out _).trans (((cell_far (p := ⟨gb195, _, none⟩) NB194_195.out _).trans (hHeld.1)))), ((cell_far (p := ⟨gb195, _, none⟩) NB194_195.out _).trans (((cell_far (p := ⟨gb195, _, none⟩) NB194_195.out _).trans (hHeld.2))))⟩ (fun hHeld => ?_)
        clear hK K
        refine pure_ (i := 12) (N := some 5) (v := ?_) (a' := ?_) #[true, true, true, true, true, true, true, true, true, true, true, true, true] rfl rfl (any_of HT_.out (by kernel_rfl)) (fun _ _ _ h => h) (Or.inl ⟨by rfl, ?_⟩) ?_ ?_
        rotate_left
        · intro w'
          go_simp
          with_reducible rfl
        rotate_left
        · simp only [Act.put, List.setIfInBounds_toArray, List.set_cons_zero, List.set_cons_succ, i64_w, i32_w]
          rfl
        refine done_ (done_of HT_.out (by kernel_rfl)) ?_
        try go_wp2
        refine bodyPost_ret (results_ct rfl _ _ gb195 29 #[.slice A25 y206.length c25, .int .i64 a0_1] (0, 0) _ rfl (by (with_reducible repeat (first | refine blk_drewN ?_ _ | refine blk_drew ?_ | refine blk_alloc ?_ _)); refine blk_put (cs := #[.slice A25 y206.length c25, .int .i64 0]) ?_ 1 _ rfl; (with_reducible repeat (first | refine blk_drewN ?_ _ | refine blk_drew ?_ | refine blk_alloc ?_ _)); refine blk_put (cs := #[.slice none 0 0, .int .i64 0]) ?_ 0 _ rfl; (with_reducible repeat (first | refine blk_drewN ?_ _ | refine blk_drew ?_ | refine blk_alloc ?_ _)); exact BK195.out) Try.underlying29 rfl (by kernel_rfl)) rfl ?_
        exact ⟨_, _, by first | rfl | (simp [errW_none, errW_some] <;> rfl) | (simp [*, errW_none, errW_some] <;> rfl), by (with_reducible repeat (first | apply Kd.V_alloc | apply Kd.V_drewN | apply Kd.V_drew)); exact Kd.V_mono (Kd.V_far (p := ⟨gb195, 1, none⟩) (Kd.V_far (p := ⟨gb195, 0, none⟩) (Kd.V_mono HO210.out (fun k_ hk => (⟨hk, hk.2⟩ : _ ∧ k_ ≠ gb195))) (fun _ hk => hk.2) (.slice A25 y206.length c25)) (fun _ hk => hk.2) (.int .i64 a0_1)) (fun _ hk => hk.1.1.1), by (with_reducible repeat (first | apply Kd.V_alloc | apply Kd.V_drewN | apply Kd.V_drew)); exact Kd.V_mono (Kd.V_far (p := ⟨gb195, 1, none⟩) (Kd.V_far (p := ⟨gb195, 0, none⟩) (Kd.V_mono HO215.out (fun k_ hk => (⟨hk, hk.2⟩ : _ ∧ k_ ≠ gb195))) (fun _ hk => hk.2) (.slice A25 y206.length c25)) (fun _ hk => hk.2) (.int .i64 a0_1)) (fun _ hk => hk.1.1.1), by repeat (first | (with_reducible first | exact HB.out | apply below_alloc | apply pw_below_drewN | apply below_drew1 | refine below_set ?_ GE194.out | refine below_set ?_ GE195.out) | exact HB.out)⟩
      · rw [if_neg c18] at H
        exact absurd H (by simp)
  · rw [if_neg c3] at H
    have c3b0 : decide (a1 < 0) = false := decide_eq_false c3
    clear c3
    by_cases c29 : a1 > (l0_0.length : Int)
    · rw [if_pos c29] at H
      have c29b0 : decide ((l0_0.length : Int) < a1) = true := decide_eq_true c29
      clear c29
      by_cases c30 : 0 ≤ (l0_0.length : Int)
      · rw [if_pos c30] at H
        have c30b0 := eq_true c30
        have c30b1 : decide (0 ≤ (l0_0.length : Int)) = true := decide_eq_true c30
        clear c30
        by_cases c31 : (l0_0.length : Int) ≤ (l0_0.length : Int)
        · rw [if_pos c31] at H
          have c31b0 := eq_true c31
          have c31b1 : decide ((l0_0.length : Int) ≤ (l0_0.length : Int)) = true := decide_eq_true c31
          clear c31
          obtain ⟨y216, hy216⟩ : ∃ y_ : List Int, y_ = (l0_0.drop ((l0_0.length : Int) : Int).toNat) := ⟨_, rfl⟩
          replace H : (some (y216, a0_1, (l0_0.take ((l0_0.length : Int) : Int).toNat))) = some (r1, r2, r3) := by first | (rw [hy216]; with_reducible exact H) | (have H2_ := (Option.bind_some _ _).symm.trans H; rw [hy216]; with_reducible exact H2_) | (have H2_ := (Option.bind_some _ _).symm.trans H; with_reducible exact H2_) | with_reducible exact H | (rw [hy216]; exact H) | exact H
          have Ny216 := Aside0.mk hy216
          clear hy216
          have c32b0 := eq_true (of_decide_eq_true (by first | (with_reducible assumption) | assumption) : 0 ≤ (l0_0.length : Int))
          have c33b0 := eq_true (of_decide_eq_true (by first | (with_reducible assumption) | assumption) : (l0_0.length : Int) ≤ (l0_0.length : Int))
          obtain ⟨y221, hy221⟩ : ∃ y_ : List Int, y_ = (l0_0.take ((l0_0.length : Int) : Int).toNat) := ⟨_, rfl⟩
          replace H : (some (y216, a0_1, y221)) = some (r1, r2, r3) := by first | (rw [hy221]; with_reducible exact H) | (have H2_ := (Option.bind_some _ _).symm.trans H; rw [hy221]; with_reducible exact H2_) | (have H2_ := (Option.bind_some _ _).symm.trans H; with_reducible exact H2_) | with_reducible exact H | (rw [hy221]; exact H) | exact H
          have Ny221 := Aside0.mk hy221
          clear hy221
          simp only [Option.some.injEq, Prod.mk.injEq] at H
          obtain ⟨rfl, rfl, rfl⟩ := H
          go_enter Try.func16, Try.ntmps16
          try go_wp2_with (first | ((with_reducible refine gate_dst (N := 2) rfl ?_); refine box_event ?hg (N := 2) ?hd (cs := #[.slice A0_0 l0_0.length c0_0, .int .i64 a0_1]) (t := 29) ?hr ?_; (case hd => rfl); (case hg => rfl); (case hr => first | (go_simp; done) | (go_simp; rfl)); intro gb194 hg w34 hbox hb; have n0_ := Aside0.mk (Kd.V_below (Kd.V_elderB (by (with_reducible repeat (first | apply Kd.V_alloc | apply Kd.V_drewN | apply Kd.V_drew)); exact HO0_0.out) gb194 (Nat.le_of_eq hg.symm)) hb); have n1_ := Aside0.mk (below_step (by repeat (first | (with_reducible first | exact HB.out | apply below_alloc | apply pw_below_drewN | apply below_drew1) | exact HB.out)) hb); have n2_ := Aside0.mk (hbox); have n3_ := Aside0.mk ((by rw [hg]; exact (below_size (by repeat (first | (with_reducible first | exact HB.out | apply below_alloc | apply pw_below_drewN | apply below_drew1) | exact HB.out))) : w.heap.size ≤ gb194)); have n4_ := Aside0.mk ((by rw [hg]; exact (below_size (by repeat (first | (with_reducible first | exact HB.out | apply below_alloc | apply pw_below_drewN | apply below_drew1) | exact HB.out))) : w.heap.size ≤ gb194)); clear HO0_0; clear HB; have HO0_0 := n0_; have HB := n1_; have BK194 := n2_; have GW194 := n3_; have GE194 := n4_; clear n0_ n1_ n2_ n3_ n4_; clear hb hbox hg) | ((with_reducible refine gate_dst (N := 4) rfl ?_); refine box_event ?hg (N := 4) ?hd (cs := #[.slice none 0 0, .int .i64 0]) (t := 29) ?hr ?_; (case hd => rfl); (case hg => rfl); (case hr => first | (go_simp; done) | (go_simp; rfl)); intro gb195 hg w35 hbox hb; have n0_ := Aside0.mk (Kd.V_below (Kd.V_elderB (by (with_reducible repeat (first | apply Kd.V_alloc | apply Kd.V_drewN | apply Kd.V_drew)); exact HO0_0.out) gb195 (Nat.le_of_eq hg.symm)) hb); have n1_ := Aside0.mk (blk_below (g := gb194) (o := .cells #[.slice A0_0 l0_0.length c0_0, .int .i64 a0_1] 29 (0, 0)) (by (with_reducible repeat (first | refine blk_drewN ?_ _ | refine blk_drew ?_ | refine blk_alloc ?_ _)); exact BK194.out) hb); have n2_ := Aside0.mk (below_step (by repeat (first | (with_reducible first | exact HB.out | apply below_alloc | apply pw_below_drewN | apply below_drew1 | refine below_set ?_ GE194.out) | exact HB.out)) hb); have n3_ := Aside0.mk (hbox); have n4_ := Aside0.mk ((by rw [hg]; exact (below_size (by repeat (first | (with_reducible first | exact HB.out | apply below_alloc | apply pw_below_drewN | apply below_drew1 | refine below_set ?_ GE194.out) | exact HB.out))) : w.heap.size ≤ gb195)); have n5_ := Aside0.mk ((by rw [hg]; exact (below_size (by repeat (first | (with_reducible first | exact HB.out | apply below_alloc | apply pw_below_drewN | apply below_drew1 | refine below_set ?_ GE194.out) | exact HB.out))) : w.heap.size ≤ gb195)); have n6_ := Aside0.mk ((by rw [hg]; exact Nat.ne_of_lt (blk_lt (g := gb194) (o := .cells #[.slice A0_0 l0_0.length c0_0, .int .i64 a0_1] 29 (0, 0)) (by (with_reducible repeat (first | refine blk_drewN ?_ _ | refine blk_drew ?_ | refine blk_alloc ?_ _)); exact BK194.out)) : gb194 ≠ gb195)); have n7_ := Aside0.mk ((by rw [hg]; exact Nat.ne_of_gt (blk_lt (g := gb194) (o := .cells #[.slice A0_0 l0_0.length c0_0, .int .i64 a0_1] 29 (0, 0)) (by (with_reducible repeat (first | refine blk_drewN ?_ _ | refine blk_drew ?_ | refine blk_alloc ?_ _)); exact BK194.out)) : gb195 ≠ gb194)); clear HO0_0; clear BK194; clear HB; have HO0_0 := n0_; have BK194 := n1_; have HB := n2_; have BK195 := n3_; have GW195 := n4_; have GE195 := n5_; have NB194_195 := n6_; have NB195_194 := n7_; clear n0_ n1_ n2_ n3_ n4_ n5_ n6_ n7_; clear hb hbox hg; have hnb36 := NB194_195.out; have hnc36 := NB195_194.out; have hcz37_0 : w35.cell? ⟨gb194, 0, none⟩ = some (.slice A0_0 l0_0.length c0_0) := (blk_cell BK194.out 0).trans rfl; have hcz37_1 : w35.cell? ⟨gb194, 1, none⟩ = some (.int .i64 a0_1) := (blk_cell BK194.out 1).trans rfl; have hfz37_0 := blk_frozen BK194.out 0; have hfz37_1 := blk_frozen BK194.out 1))
          have n0_ := Aside0.mk (Kd.V_drew HO0_0.out)
          have n1_ := Aside0.mk (blk_drew BK194.out)
          have n2_ := Aside0.mk (blk_drew BK195.out)
          have n3_ := Aside0.mk (below_drew1 HB.out)
          clear HO0_0
          clear BK194
          clear BK195
          clear HB
          have HO0_0 := n0_
          have BK194 := n1_
          have BK195 := n2_
          have HB := n3_
          clear n0_ n1_ n2_ n3_
          have q39 : ((l0_0.length : Int) : Int) ≤ ((l0_0.length : Int) : Int) := of_decide_eq_true (by first | (with_reducible assumption) | assumption)
          obtain ⟨i039, hi039, _, hsz39, _⟩ := info_parts info3
          have hroom39 : l0_0.length ≤ c0_0 := (Kd.V_reads' HO0_0.out).2.1
          have hC39 : Kd.F (Kd.int .i64) _ _ A0_0 l0_0.length l0_0 := (Kd.V_at (base := w.heap.size) HO0_0.out).2.2
          have q039 : (0 : Int) ≤ ((l0_0.length : Int) : Int) := of_decide_eq_true (by first | (with_reducible assumption) | assumption)
          have hcut39 := cut_from (P := Try.prog) 22 3 .i64 Try.underlying22 hi039 1 hsz39 A0_0 l0_0.length c0_0 (l0_0.length : Int) q039 q39
          have hr39 := Kd.F_cut (m := ((l0_0.length : Int) : Int).toNat) (c := c0_0) hC39 (by omega) hroom39
          obtain ⟨A39, hA39⟩ : ∃ A1, A1 = (if c0_0 = ((l0_0.length : Int) : Int).toNat then A0_0 else (A0_0 : Option Addr).map (·.add (((l0_0.length : Int) : Int).toNat * 1))) := ⟨_, rfl⟩
          obtain ⟨c39, hc39⟩ : ∃ c1, c1 = c0_0 - ((l0_0.length : Int) : Int).toNat := ⟨_, rfl⟩
          have hy39 : y216.length = l0_0.length - ((l0_0.length : Int) : Int).toNat := (by rw [Ny216.out, List.length_drop] <;> omega)
          rw [show (l0_0).drop ((l0_0.length : Int) : Int).toNat = y216 from Ny216.out.symm] at hr39
          replace hr39 : Kd.F (Kd.int .i64) _ _ A39 y216.length y216 := (by rw [hA39]; exact hr39)
          rw [← hy39, ← hA39, ← hc39] at hcut39
          have HO220 := Aside0.mk (show Kd.V (Kd.int .i64) 3 _ w.heap.size _ (.slice A39 y216.length c39) y216 from Kd.V_mk (by rw [hy39, hc39]; exact Nat.sub_le_sub_right hroom39 _) hr39)
          have HC220 := Aside0.mk (show y216.length ≤ c39 from by rw [hy39, hc39]; exact Nat.sub_le_sub_right hroom39 _)
          clear hr39 hC39 hroom39 hi039 hsz39 hc39
          have KY39 := Aside0.mk hy39
          have KA39 := Aside0.mk hA39
          clear hy39 hA39
          replace q39 := eq_true q39
          have q40 : ((l0_0.length : Int) : Int) ≤ ((l0_0.length : Int) : Int) := of_decide_eq_true (by first | (with_reducible assumption) | assumption)
          obtain ⟨i040, hi040, _, hsz40, _⟩ := info_parts info3
          have hroom40 : l0_0.length ≤ c0_0 := (Kd.V_reads' HO0_0.out).2.1
          have hC40 : Kd.F (Kd.int .i64) _ _ A0_0 l0_0.length l0_0 := (Kd.V_at (base := w.heap.size) HO0_0.out).2.2
          have hcut40 := cut_to (P := Try.prog) 22 3 .i64 Try.underlying22 hi040 A0_0 l0_0.length c0_0 (l0_0.length : Int) (of_decide_eq_true (by first | (with_reducible assumption) | assumption)) q40 hroom40
          have hr40 := Kd.F_take (m := ((l0_0.length : Int) : Int).toNat) hC40 (by omega)
          have hy40 : y221.length = ((l0_0.length : Int) : Int).toNat := (by rw [Ny221.out, List.length_take]; omega)
          rw [← Ny221.out] at hr40
          rw [← hy40] at hcut40
          have HO225 := Aside0.mk (show Kd.V (Kd.int .i64) 3 _ w.heap.size _ (.slice A0_0 y221.length c0_0) y221 from Kd.V_mk (by omega) hr40)
          have HC225 := Aside0.mk (show y221.length ≤ c0_0 from by omega)
          clear hr40 hC40 hroom40 hi040 hsz40
          have KY40 := Aside0.mk hy40
          clear hy40
          replace q40 := eq_true q40
          refine start_ (n := 13) (S := fun w' => w'.cell? ⟨gb194, 0, none⟩ = some (.slice A0_0 l0_0.length c0_0) ∧ w'.cell? ⟨gb194, 1, none⟩ = some (.int .i64 a0_1)) (ds := []) #[false, false, false, false, false, false, false, false, false, false, false, false, false] (by kernel_rfl) rfl rfl ⟨(blk_cell BK194.out 0).trans rfl, (blk_cell BK194.out 1).trans rfl⟩ (fun hHeld => ?_); refine with_tabW mortmainref02_Drain.tab5 mortmainref02_Drain.bits5 (fun HT_ HW_ => ?_)
          generalize w35.drew = w38 at HO0_0 BK194 BK195 HB HO220 HO225 hHeld ⊢
          refine pure_ (i := 0) (N := some 16) (v := ?_) (a' := ?_) #[true, false, false, false, false, false, false, false, false, false, false, false, false] rfl rfl (any_of HT_.out (by kernel_rfl)) (fun _ _ _ h => h) (Or.inl ⟨by rfl, ?_⟩) ?_ ?_
          rotate_left
          · intro w'
            go_simp
            with_reducible rfl
          rotate_left
          · simp only [Act.put, List.setIfInBounds_toArray, List.set_cons_zero, List.set_cons_succ, i64_w, i32_w]
            rfl
          refine pure_ (i := 2) (N := some 18) (v := ?_) (a' := ?_) #[true, false, true, false, false, false, false, false, false, false, false, false, false] rfl rfl (any_of HT_.out (by kernel_rfl)) (fun _ _ _ h => h) (Or.inl ⟨by rfl, ?_⟩) ?_ ?_
          rotate_left
          · intro w'
            go_simp
            with_reducible rfl
          rotate_left
          · simp only [Act.put, List.setIfInBounds_toArray, List.set_cons_zero, List.set_cons_succ, i64_w, i32_w]
            rfl
          refine pure_ (i := 4) (N := some 20) (v := ?_) (a' := ?_) #[true, false, true, false, true, false, false, false, false, false, false, false, false] rfl rfl (any_of HT_.out (by kernel_rfl)) (fun _ _ _ h => h) (Or.inl ⟨by rfl, ?_⟩) ?_ ?_
          rotate_left
          · intro w'
            go_simp
            with_reducible rfl
          rotate_left
          · simp only [Act.put, List.setIfInBounds_toArray, List.set_cons_zero, List.set_cons_succ, i64_w, i32_w]
            rfl
          refine pure_ (i := 7) (N := some 23) (v := ?_) (a' := ?_) #[true, false, true, false, true, false, false, true, false, false, false, false, false] rfl rfl (any_of HT_.out (by kernel_rfl)) (fun _ _ _ h => h) (Or.inl ⟨by rfl, ?_⟩) ?_ ?_
          rotate_left
          · intro w'
            go_simp
            with_reducible rfl
          rotate_left
          · simp only [Act.put, List.setIfInBounds_toArray, List.set_cons_zero, List.set_cons_succ, i64_w, i32_w]
            rfl
          refine pure_ (i := 9) (N := some 25) (v := ?_) (a' := ?_) #[true, false, true, false, true, false, false, true, false, true, false, false, false] rfl rfl (any_of HT_.out (by kernel_rfl)) (fun _ _ _ h => h) (Or.inl ⟨by rfl, ?_⟩) ?_ ?_
          rotate_left
          · intro w'
            go_simp
            with_reducible rfl
          rotate_left
          · simp only [Act.put, List.setIfInBounds_toArray, List.set_cons_zero, List.set_cons_succ, i64_w, i32_w]
            rfl
          refine take_ (i := 1) (N := some 17) (v := ?_) (a' := ?_) #[true, true, true, false, true, false, false, true, false, true, false, false, false] rfl rfl (take_ofW HT_.out HW_.out (by kernel_rfl)) (fun _ _ _ h => h) (Or.inl ⟨by rfl, ?_⟩) hHeld ?_ ?_
          rotate_left
          · rintro w' ⟨s0, s1⟩
            try simp only [Int.toNat_natCast] at s0 s1
            go_simp
            with_reducible rfl
          rotate_left
          · simp only [Act.put, List.setIfInBounds_toArray, List.set_cons_zero, List.set_cons_succ, i64_w, i32_w]
            rfl
          refine pure_ (i := 3) (N := some 19) (v := ?_) (a' := ?_) #[true, true, true, true, true, false, false, true, false, true, false, false, false] rfl rfl (any_of HT_.out (by kernel_rfl)) (fun _ _ _ h => h) (Or.inl ⟨by rfl, ?_⟩) ?_ ?_
          rotate_left
          · intro w'
            go_simp
            with_reducible rfl
          rotate_left
          · simp only [Act.put, List.setIfInBounds_toArray, List.set_cons_zero, List.set_cons_succ, i64_w, i32_w]
            rfl
          refine take_ (i := 5) (N := some 21) (v := ?_) (a' := ?_) #[true, true, true, true, true, true, false, true, false, true, false, false, false] rfl rfl (take_ofW HT_.out HW_.out (by kernel_rfl)) (fun _ _ _ h => h) (Or.inl ⟨by rfl, ?_⟩) hHeld ?_ ?_
          rotate_left
          · rintro w' ⟨s0, s1⟩
            try simp only [Int.toNat_natCast] at s0 s1
            go_simp
            with_reducible rfl
          rotate_left
          · simp only [Act.put, List.setIfInBounds_toArray, List.set_cons_zero, List.set_cons_succ, i64_w, i32_w]
            rfl
          refine pure_ (i := 6) (N := some 22) (v := ?_) (a' := ?_) #[true, true, true, true, true, true, true, true, false, true, false, false, false] rfl rfl (any_of HT_.out (by kernel_rfl)) (fun _ _ _ h => h) (Or.inl ⟨by rfl, ?_⟩) ?_ ?_
          rotate_left
          · intro w'
            go_simp
            with_reducible rfl
          rotate_left
          · simp only [Act.put, List.setIfInBounds_toArray, List.set_cons_zero, List.set_cons_succ, i64_w, i32_w]
            rfl
          refine take_ (i := 8) (N := some 24) (v := ?_) (a' := ?_) #[true, true, true, true, true, true, true, true, true, true, false, false, false] rfl rfl (take_ofW HT_.out HW_.out (by kernel_rfl)) (fun _ _ _ h => h) (Or.inl ⟨by rfl, ?_⟩) hHeld ?_ ?_
          rotate_left
          · rintro w' ⟨s0, s1⟩
            try simp only [Int.toNat_natCast] at s0 s1
            go_simp
            with_reducible rfl
          rotate_left
          · simp only [Act.put, List.setIfInBounds_toArray, List.set_cons_zero, List.set_cons_succ, i64_w, i32_w]
            rfl
          refine pure_ (i := 10) (N := some 26) (v := ?_) (a' := ?_) #[true, true, true, true, true, true, true, true, true, true, true, false, false] rfl rfl (any_of HT_.out (by kernel_rfl)) (fun _ _ _ h => h) (Or.inl ⟨by rfl, ?_⟩) ?_ ?_
          rotate_left
          · intro w'
            go_simp
            with_reducible rfl
          rotate_left
          · simp only [Act.put, List.setIfInBounds_toArray, List.set_cons_zero, List.set_cons_succ, i64_w, i32_w]
            rfl
          refine one_ (i := 11) (N := none) #[true, true, true, true, true, true, true, true, true, true, true, true, false] rfl rfl (one_of HT_.out (by kernel_rfl)) (by decide) (fun K hK => ?_)
          have hs41 : w38.cell? ⟨gb195, 0, none⟩ = some (.slice none 0 0) := (blk_cell BK195.out 0).trans rfl
          have hfs41 := blk_frozen BK195.out 0
          have hns41_0 := NB194_195.out
          have hms41_0 := NB195_194.out
          have hs42 : w38.cell? ⟨gb195, 1, none⟩ = some (.int .i64 0) := (blk_cell BK195.out 1).trans rfl
          have hfs42 := blk_frozen BK195.out 1
          have hns42_0 := NB194_195.out
          have hms42_0 := NB195_194.out
          refine skip_ (w1 := ?_) (by rfl) rfl ?_ ?_
          rotate_left
          · go_simp
            rfl
          refine hK.out _ _ ⟨((cell_far (p := ⟨gb195, _, none⟩) NB194_195.out _).trans (((cell_far (p := ⟨gb195, _, none⟩) NB194_195.out _).trans (hHeld.1)))), ((cell_far (p := ⟨gb195, _, none⟩) NB194_195.out _).trans (((cell_far (p := ⟨gb195, _, none⟩) NB194_195.out _).trans (hHeld.2))))⟩ (fun hHeld => ?_)
          clear hK K
          refine pure_ (i := 12) (N := some 5) (v := ?_) (a' := ?_) #[true, true, true, true, true, true, true, true, true, true, true, true, true] rfl rfl (any_of HT_.out (by kernel_rfl)) (fun _ _ _ h => h) (Or.inl ⟨by rfl, ?_⟩) ?_ ?_
          rotate_left
          · intro w'
            go_simp
            with_reducible rfl
          rotate_left
          · simp only [Act.put, List.setIfInBounds_toArray, List.set_cons_zero, List.set_cons_succ, i64_w, i32_w]
            rfl
          refine done_ (done_of HT_.out (by kernel_rfl)) ?_
          try go_wp2
          refine bodyPost_ret (results_ct rfl _ _ gb195 29 #[.slice A39 y216.length c39, .int .i64 a0_1] (0, 0) _ rfl (by (with_reducible repeat (first | refine blk_drewN ?_ _ | refine blk_drew ?_ | refine blk_alloc ?_ _)); refine blk_put (cs := #[.slice A39 y216.length c39, .int .i64 0]) ?_ 1 _ rfl; (with_reducible repeat (first | refine blk_drewN ?_ _ | refine blk_drew ?_ | refine blk_alloc ?_ _)); refine blk_put (cs := #[.slice none 0 0, .int .i64 0]) ?_ 0 _ rfl; (with_reducible repeat (first | refine blk_drewN ?_ _ | refine blk_drew ?_ | refine blk_alloc ?_ _)); exact BK195.out) Try.underlying29 rfl (by kernel_rfl)) rfl ?_
          exact ⟨_, _, by first | rfl | (simp [errW_none, errW_some] <;> rfl) | (simp [*, errW_none, errW_some] <;> rfl), by (with_reducible repeat (first | apply Kd.V_alloc | apply Kd.V_drewN | apply Kd.V_drew)); exact Kd.V_mono (Kd.V_far (p := ⟨gb195, 1, none⟩) (Kd.V_far (p := ⟨gb195, 0, none⟩) (Kd.V_mono HO220.out (fun k_ hk => (⟨hk, hk.2⟩ : _ ∧ k_ ≠ gb195))) (fun _ hk => hk.2) (.slice A39 y216.length c39)) (fun _ hk => hk.2) (.int .i64 a0_1)) (fun _ hk => hk.1.1.1), by (with_reducible repeat (first | apply Kd.V_alloc | apply Kd.V_drewN | apply Kd.V_drew)); exact Kd.V_mono (Kd.V_far (p := ⟨gb195, 1, none⟩) (Kd.V_far (p := ⟨gb195, 0, none⟩) (Kd.V_mono HO225.out (fun k_ hk => (⟨hk, hk.2⟩ : _ ∧ k_ ≠ gb195))) (fun _ hk => hk.2) (.slice A39 y216.length c39)) (fun _ hk => hk.2) (.int .i64 a0_1)) (fun _ hk => hk.1.1.1), by repeat (first | (with_reducible first | exact HB.out | apply below_alloc | apply pw_below_drewN | apply below_drew1 | refine below_set ?_ GE194.out | refine below_set ?_ GE195.out) | exact HB.out)⟩
        · rw [if_neg c31] at H
          exact absurd H (by simp)
      · rw [if_neg c30] at H
        exact absurd H (by simp)
    · rw [if_neg c29] at H
      have c29b0 : decide ((l0_0.length : Int) < a1) = false := decide_eq_false c29
      clear c29
      by_cases c43 : 0 ≤ a1
      · rw [if_pos c43] at H
        have c43b0 := eq_true c43
        have c43b1 : decide (0 ≤ a1) = true := decide_eq_true c43
        clear c43
        by_cases c44 : a1 ≤ (l0_0.length : Int)
        · rw [if_pos c44] at H
          have c44b0 := eq_true c44
          have c44b1 : decide (a1 ≤ (l0_0.length : Int)) = true := decide_eq_true c44
          clear c44
          obtain ⟨y226, hy226⟩ : ∃ y_ : List Int, y_ = (l0_0.drop (a1 : Int).toNat) := ⟨_, rfl⟩
          replace H : (some (y226, a0_1, (l0_0.take (a1 : Int).toNat))) = some (r1, r2, r3) := by first | (rw [hy226]; with_reducible exact H) | (have H2_ := (Option.bind_some _ _).symm.trans H; rw [hy226]; with_reducible exact H2_) | (have H2_ := (Option.bind_some _ _).symm.trans H; with_reducible exact H2_) | with_reducible exact H | (rw [hy226]; exact H) | exact H
          have Ny226 := Aside0.mk hy226
          clear hy226
          have c45b0 := eq_true (of_decide_eq_true (by first | (with_reducible assumption) | assumption) : 0 ≤ a1)
          have c46b0 := eq_true (of_decide_eq_true (by first | (with_reducible assumption) | assumption) : a1 ≤ (l0_0.length : Int))
          obtain ⟨y231, hy231⟩ : ∃ y_ : List Int, y_ = (l0_0.take (a1 : Int).toNat) := ⟨_, rfl⟩
          replace H : (some (y226, a0_1, y231)) = some (r1, r2, r3) := by first | (rw [hy231]; with_reducible exact H) | (have H2_ := (Option.bind_some _ _).symm.trans H; rw [hy231]; with_reducible exact H2_) | (have H2_ := (Option.bind_some _ _).symm.trans H; with_reducible exact H2_) | with_reducible exact H | (rw [hy231]; exact H) | exact H
          have Ny231 := Aside0.mk hy231
          clear hy231
          simp only [Option.some.injEq, Prod.mk.injEq] at H
          obtain ⟨rfl, rfl, rfl⟩ := H
          go_enter Try.func16, Try.ntmps16
          try go_wp2_with (first | ((with_reducible refine gate_dst (N := 2) rfl ?_); refine box_event ?hg (N := 2) ?hd (cs := #[.slice A0_0 l0_0.length c0_0, .int .i64 a0_1]) (t := 29) ?hr ?_; (case hd => rfl); (case hg => rfl); (case hr => first | (go_simp; done) | (go_simp; rfl)); intro gb194 hg w47 hbox hb; have n0_ := Aside0.mk (Kd.V_below (Kd.V_elderB (by (with_reducible repeat (first | apply Kd.V_alloc | apply Kd.V_drewN | apply Kd.V_drew)); exact HO0_0.out) gb194 (Nat.le_of_eq hg.symm)) hb); have n1_ := Aside0.mk (below_step (by repeat (first | (with_reducible first | exact HB.out | apply below_alloc | apply pw_below_drewN | apply below_drew1) | exact HB.out)) hb); have n2_ := Aside0.mk (hbox); have n3_ := Aside0.mk ((by rw [hg]; exact (below_size (by repeat (first | (with_reducible first | exact HB.out | apply below_alloc | apply pw_below_drewN | apply below_drew1) | exact HB.out))) : w.heap.size ≤ gb194)); have n4_ := Aside0.mk ((by rw [hg]; exact (below_size (by repeat (first | (with_reducible first | exact HB.out | apply below_alloc | apply pw_below_drewN | apply below_drew1) | exact HB.out))) : w.heap.size ≤ gb194)); clear HO0_0; clear HB; have HO0_0 := n0_; have HB := n1_; have BK194 := n2_; have GW194 := n3_; have GE194 := n4_; clear n0_ n1_ n2_ n3_ n4_; clear hb hbox hg) | ((with_reducible refine gate_dst (N := 4) rfl ?_); refine box_event ?hg (N := 4) ?hd (cs := #[.slice none 0 0, .int .i64 0]) (t := 29) ?hr ?_; (case hd => rfl); (case hg => rfl); (case hr => first | (go_simp; done) | (go_simp; rfl)); intro gb195 hg w48 hbox hb; have n0_ := Aside0.mk (Kd.V_below (Kd.V_elderB (by (with_reducible repeat (first | apply Kd.V_alloc | apply Kd.V_drewN | apply Kd.V_drew)); exact HO0_0.out) gb195 (Nat.le_of_eq hg.symm)) hb); have n1_ := Aside0.mk (blk_below (g := gb194) (o := .cells #[.slice A0_0 l0_0.length c0_0, .int .i64 a0_1] 29 (0, 0)) (by (with_reducible repeat (first | refine blk_drewN ?_ _ | refine blk_drew ?_ | refine blk_alloc ?_ _)); exact BK194.out) hb); have n2_ := Aside0.mk (below_step (by repeat (first | (with_reducible first | exact HB.out | apply below_alloc | apply pw_below_drewN | apply below_drew1 | refine below_set ?_ GE194.out) | exact HB.out)) hb); have n3_ := Aside0.mk (hbox); have n4_ := Aside0.mk ((by rw [hg]; exact (below_size (by repeat (first | (with_reducible first | exact HB.out | apply below_alloc | apply pw_below_drewN | apply below_drew1 | refine below_set ?_ GE194.out) | exact HB.out))) : w.heap.size ≤ gb195)); have n5_ := Aside0.mk ((by rw [hg]; exact (below_size (by repeat (first | (with_reducible first | exact HB.out | apply below_alloc | apply pw_below_drewN | apply below_drew1 | refine below_set ?_ GE194.out) | exact HB.out))) : w.heap.size ≤ gb195)); have n6_ := Aside0.mk ((by rw [hg]; exact Nat.ne_of_lt (blk_lt (g := gb194) (o := .cells #[.slice A0_0 l0_0.length c0_0, .int .i64 a0_1] 29 (0, 0)) (by (with_reducible repeat (first | refine blk_drewN ?_ _ | refine blk_drew ?_ | refine blk_alloc ?_ _)); exact BK194.out)) : gb194 ≠ gb195)); have n7_ := Aside0.mk ((by rw [hg]; exact Nat.ne_of_gt (blk_lt (g := gb194) (o := .cells #[.slice A0_0 l0_0.length c0_0, .int .i64 a0_1] 29 (0, 0)) (by (with_reducible repeat (first | refine blk_drewN ?_ _ | refine blk_drew ?_ | refine blk_alloc ?_ _)); exact BK194.out)) : gb195 ≠ gb194)); clear HO0_0; clear BK194; clear HB; have HO0_0 := n0_; have BK194 := n1_; have HB := n2_; have BK195 := n3_; have GW195 := n4_; have GE195 := n5_; have NB194_195 := n6_; have NB195_194 := n7_; clear n0_ n1_ n2_ n3_ n4_ n5_ n6_ n7_; clear hb hbox hg; have hnb49 := NB194_195.out; have hnc49 := NB195_194.out; have hcz50_0 : w48.cell? ⟨gb194, 0, none⟩ = some (.slice A0_0 l0_0.length c0_0) := (blk_cell BK194.out 0).trans rfl; have hcz50_1 : w48.cell? ⟨gb194, 1, none⟩ = some (.int .i64 a0_1) := (blk_cell BK194.out 1).trans rfl; have hfz50_0 := blk_frozen BK194.out 0; have hfz50_1 := blk_frozen BK194.out 1))
          have n0_ := Aside0.mk (Kd.V_drew HO0_0.out)
          have n1_ := Aside0.mk (blk_drew BK194.out)
          have n2_ := Aside0.mk (blk_drew BK195.out)
          have n3_ := Aside0.mk (below_drew1 HB.out)
          clear HO0_0
          clear BK194
          clear BK195
          clear HB
          have HO0_0 := n0_
          have BK194 := n1_
          have BK195 := n2_
          have HB := n3_
          clear n0_ n1_ n2_ n3_
          have q52 : (a1 : Int) ≤ ((l0_0.length : Int) : Int) := of_decide_eq_true (by first | (with_reducible assumption) | assumption)
          obtain ⟨i052, hi052, _, hsz52, _⟩ := info_parts info3
          have hroom52 : l0_0.length ≤ c0_0 := (Kd.V_reads' HO0_0.out).2.1
          have hC52 : Kd.F (Kd.int .i64) _ _ A0_0 l0_0.length l0_0 := (Kd.V_at (base := w.heap.size) HO0_0.out).2.2
          have q052 : (0 : Int) ≤ (a1 : Int) := of_decide_eq_true (by first | (with_reducible assumption) | assumption)
          have hcut52 := cut_from (P := Try.prog) 22 3 .i64 Try.underlying22 hi052 1 hsz52 A0_0 l0_0.length c0_0 a1 q052 q52
          have hr52 := Kd.F_cut (m := (a1 : Int).toNat) (c := c0_0) hC52 (by omega) hroom52
          obtain ⟨A52, hA52⟩ : ∃ A1, A1 = (if c0_0 = (a1 : Int).toNat then A0_0 else (A0_0 : Option Addr).map (·.add ((a1 : Int).toNat * 1))) := ⟨_, rfl⟩
          obtain ⟨c52, hc52⟩ : ∃ c1, c1 = c0_0 - (a1 : Int).toNat := ⟨_, rfl⟩
          have hy52 : y226.length = l0_0.length - (a1 : Int).toNat := (by rw [Ny226.out, List.length_drop] <;> omega)
          rw [show (l0_0).drop (a1 : Int).toNat = y226 from Ny226.out.symm] at hr52
          replace hr52 : Kd.F (Kd.int .i64) _ _ A52 y226.length y226 := (by rw [hA52]; exact hr52)
          rw [← hy52, ← hA52, ← hc52] at hcut52
          have HO230 := Aside0.mk (show Kd.V (Kd.int .i64) 3 _ w.heap.size _ (.slice A52 y226.length c52) y226 from Kd.V_mk (by rw [hy52, hc52]; exact Nat.sub_le_sub_right hroom52 _) hr52)
          have HC230 := Aside0.mk (show y226.length ≤ c52 from by rw [hy52, hc52]; exact Nat.sub_le_sub_right hroom52 _)
          clear hr52 hC52 hroom52 hi052 hsz52 hc52
          have KY52 := Aside0.mk hy52
          have KA52 := Aside0.mk hA52
          clear hy52 hA52
          replace q52 := eq_true q52
          have q53 : (a1 : Int) ≤ ((l0_0.length : Int) : Int) := of_decide_eq_true (by first | (with_reducible assumption) | assumption)
          obtain ⟨i053, hi053, _, hsz53, _⟩ := info_parts info3
          have hroom53 : l0_0.length ≤ c0_0 := (Kd.V_reads' HO0_0.out).2.1
          have hC53 : Kd.F (Kd.int .i64) _ _ A0_0 l0_0.length l0_0 := (Kd.V_at (base := w.heap.size) HO0_0.out).2.2
          have hcut53 := cut_to (P := Try.prog) 22 3 .i64 Try.underlying22 hi053 A0_0 l0_0.length c0_0 a1 (of_decide_eq_true (by first | (with_reducible assumption) | assumption)) q53 hroom53
          have hr53 := Kd.F_take (m := (a1 : Int).toNat) hC53 (by omega)
          have hy53 : y231.length = (a1 : Int).toNat := (by rw [Ny231.out, List.length_take]; omega)
          rw [← Ny231.out] at hr53
          rw [← hy53] at hcut53
          have HO235 := Aside0.mk (show Kd.V (Kd.int .i64) 3 _ w.heap.size _ (.slice A0_0 y231.length c0_0) y231 from Kd.V_mk (by omega) hr53)
          have HC235 := Aside0.mk (show y231.length ≤ c0_0 from by omega)
          clear hr53 hC53 hroom53 hi053 hsz53
          have KY53 := Aside0.mk hy53
          clear hy53
          replace q53 := eq_true q53
          refine start_ (n := 13) (S := fun w' => w'.cell? ⟨gb194, 0, none⟩ = some (.slice A0_0 l0_0.length c0_0) ∧ w'.cell? ⟨gb194, 1, none⟩ = some (.int .i64 a0_1)) (ds := []) #[false, false, false, false, false, false, false, false, false, false, false, false, false] (by kernel_rfl) rfl rfl ⟨(blk_cell BK194.out 0).trans rfl, (blk_cell BK194.out 1).trans rfl⟩ (fun hHeld => ?_); refine with_tabW mortmainref02_Drain.tab5 mortmainref02_Drain.bits5 (fun HT_ HW_ => ?_)
          generalize w48.drew = w51 at HO0_0 BK194 BK195 HB HO230 HO235 hHeld ⊢
          refine pure_ (i := 0) (N := some 16) (v := ?_) (a' := ?_) #[true, false, false, false, false, false, false, false, false, false, false, false, false] rfl rfl (any_of HT_.out (by kernel_rfl)) (fun _ _ _ h => h) (Or.inl ⟨by rfl, ?_⟩) ?_ ?_
          rotate_left
          · intro w'
            go_simp
            with_reducible rfl
          rotate_left
          · simp only [Act.put, List.setIfInBounds_toArray, List.set_cons_zero, List.set_cons_succ, i64_w, i32_w]
            rfl
          refine pure_ (i := 2) (N := some 18) (v := ?_) (a' := ?_) #[true, false, true, false, false, false, false, false, false, false, false, false, false] rfl rfl (any_of HT_.out (by kernel_rfl)) (fun _ _ _ h => h) (Or.inl ⟨by rfl, ?_⟩) ?_ ?_
          rotate_left
          · intro w'
            go_simp
            with_reducible rfl
          rotate_left
          · simp only [Act.put, List.setIfInBounds_toArray, List.set_cons_zero, List.set_cons_succ, i64_w, i32_w]
            rfl
          refine pure_ (i := 4) (N := some 20) (v := ?_) (a' := ?_) #[true, false, true, false, true, false, false, false, false, false, false, false, false] rfl rfl (any_of HT_.out (by kernel_rfl)) (fun _ _ _ h => h) (Or.inl ⟨by rfl, ?_⟩) ?_ ?_
          rotate_left
          · intro w'
            go_simp
            with_reducible rfl
          rotate_left
          · simp only [Act.put, List.setIfInBounds_toArray, List.set_cons_zero, List.set_cons_succ, i64_w, i32_w]
            rfl
          refine pure_ (i := 7) (N := some 23) (v := ?_) (a' := ?_) #[true, false, true, false, true, false, false, true, false, false, false, false, false] rfl rfl (any_of HT_.out (by kernel_rfl)) (fun _ _ _ h => h) (Or.inl ⟨by rfl, ?_⟩) ?_ ?_
          rotate_left
          · intro w'
            go_simp
            with_reducible rfl
          rotate_left
          · simp only [Act.put, List.setIfInBounds_toArray, List.set_cons_zero, List.set_cons_succ, i64_w, i32_w]
            rfl
          refine pure_ (i := 9) (N := some 25) (v := ?_) (a' := ?_) #[true, false, true, false, true, false, false, true, false, true, false, false, false] rfl rfl (any_of HT_.out (by kernel_rfl)) (fun _ _ _ h => h) (Or.inl ⟨by rfl, ?_⟩) ?_ ?_
          rotate_left
          · intro w'
            go_simp
            with_reducible rfl
          rotate_left
          · simp only [Act.put, List.setIfInBounds_toArray, List.set_cons_zero, List.set_cons_succ, i64_w, i32_w]
            rfl
          refine take_ (i := 1) (N := some 17) (v := ?_) (a' := ?_) #[true, true, true, false, true, false, false, true, false, true, false, false, false] rfl rfl (take_ofW HT_.out HW_.out (by kernel_rfl)) (fun _ _ _ h => h) (Or.inl ⟨by rfl, ?_⟩) hHeld ?_ ?_
          rotate_left
          · rintro w' ⟨s0, s1⟩
            try simp only [Int.toNat_natCast] at s0 s1
            go_simp
            with_reducible rfl
          rotate_left
          · simp only [Act.put, List.setIfInBounds_toArray, List.set_cons_zero, List.set_cons_succ, i64_w, i32_w]
            rfl
          refine pure_ (i := 3) (N := some 19) (v := ?_) (a' := ?_) #[true, true, true, true, true, false, false, true, false, true, false, false, false] rfl rfl (any_of HT_.out (by kernel_rfl)) (fun _ _ _ h => h) (Or.inl ⟨by rfl, ?_⟩) ?_ ?_
          rotate_left
          · intro w'
            go_simp
            with_reducible rfl
          rotate_left
          · simp only [Act.put, List.setIfInBounds_toArray, List.set_cons_zero, List.set_cons_succ, i64_w, i32_w]
            rfl
          refine take_ (i := 5) (N := some 21) (v := ?_) (a' := ?_) #[true, true, true, true, true, true, false, true, false, true, false, false, false] rfl rfl (take_ofW HT_.out HW_.out (by kernel_rfl)) (fun _ _ _ h => h) (Or.inl ⟨by rfl, ?_⟩) hHeld ?_ ?_
          rotate_left
          · rintro w' ⟨s0, s1⟩
            try simp only [Int.toNat_natCast] at s0 s1
            go_simp
            with_reducible rfl
          rotate_left
          · simp only [Act.put, List.setIfInBounds_toArray, List.set_cons_zero, List.set_cons_succ, i64_w, i32_w]
            rfl
          refine pure_ (i := 6) (N := some 22) (v := ?_) (a' := ?_) #[true, true, true, true, true, true, true, true, false, true, false, false, false] rfl rfl (any_of HT_.out (by kernel_rfl)) (fun _ _ _ h => h) (Or.inl ⟨by rfl, ?_⟩) ?_ ?_
          rotate_left
          · intro w'
            go_simp
            with_reducible rfl
          rotate_left
          · simp only [Act.put, List.setIfInBounds_toArray, List.set_cons_zero, List.set_cons_succ, i64_w, i32_w]
            rfl
          refine take_ (i := 8) (N := some 24) (v := ?_) (a' := ?_) #[true, true, true, true, true, true, true, true, true, true, false, false, false] rfl rfl (take_ofW HT_.out HW_.out (by kernel_rfl)) (fun _ _ _ h => h) (Or.inl ⟨by rfl, ?_⟩) hHeld ?_ ?_
          rotate_left
          · rintro w' ⟨s0, s1⟩
            try simp only [Int.toNat_natCast] at s0 s1
            go_simp
            with_reducible rfl
          rotate_left
          · simp only [Act.put, List.setIfInBounds_toArray, List.set_cons_zero, List.set_cons_succ, i64_w, i32_w]
            rfl
          refine pure_ (i := 10) (N := some 26) (v := ?_) (a' := ?_) #[true, true, true, true, true, true, true, true, true, true, true, false, false] rfl rfl (any_of HT_.out (by kernel_rfl)) (fun _ _ _ h => h) (Or.inl ⟨by rfl, ?_⟩) ?_ ?_
          rotate_left
          · intro w'
            go_simp
            with_reducible rfl
          rotate_left
          · simp only [Act.put, List.setIfInBounds_toArray, List.set_cons_zero, List.set_cons_succ, i64_w, i32_w]
            rfl
          refine one_ (i := 11) (N := none) #[true, true, true, true, true, true, true, true, true, true, true, true, false] rfl rfl (one_of HT_.out (by kernel_rfl)) (by decide) (fun K hK => ?_)
          have hs54 : w51.cell? ⟨gb195, 0, none⟩ = some (.slice none 0 0) := (blk_cell BK195.out 0).trans rfl
          have hfs54 := blk_frozen BK195.out 0
          have hns54_0 := NB194_195.out
          have hms54_0 := NB195_194.out
          have hs55 : w51.cell? ⟨gb195, 1, none⟩ = some (.int .i64 0) := (blk_cell BK195.out 1).trans rfl
          have hfs55 := blk_frozen BK195.out 1
          have hns55_0 := NB194_195.out
          have hms55_0 := NB195_194.out
          refine skip_ (w1 := ?_) (by rfl) rfl ?_ ?_
          rotate_left
          · go_simp
            rfl
          refine hK.out _ _ ⟨((cell_far (p := ⟨gb195, _, none⟩) NB194_195.out _).trans (((cell_far (p := ⟨gb195, _, none⟩) NB194_195.out _).trans (hHeld.1)))), ((cell_far (p := ⟨gb195, _, none⟩) NB194_195.out _).trans (((cell_far (p := ⟨gb195, _, none⟩) NB194_195.out _).trans (hHeld.2))))⟩ (fun hHeld => ?_)
          clear hK K
          refine pure_ (i := 12) (N := some 5) (v := ?_) (a' := ?_) #[true, true, true, true, true, true, true, true, true, true, true, true, true] rfl rfl (any_of HT_.out (by kernel_rfl)) (fun _ _ _ h => h) (Or.inl ⟨by rfl, ?_⟩) ?_ ?_
          rotate_left
          · intro w'
            go_simp
            with_reducible rfl
          rotate_left
          · simp only [Act.put, List.setIfInBounds_toArray, List.set_cons_zero, List.set_cons_succ, i64_w, i32_w]
            rfl
          refine done_ (done_of HT_.out (by kernel_rfl)) ?_
          try go_wp2
          refine bodyPost_ret (results_ct rfl _ _ gb195 29 #[.slice A52 y226.length c52, .int .i64 a0_1] (0, 0) _ rfl (by (with_reducible repeat (first | refine blk_drewN ?_ _ | refine blk_drew ?_ | refine blk_alloc ?_ _)); refine blk_put (cs := #[.slice A52 y226.length c52, .int .i64 0]) ?_ 1 _ rfl; (with_reducible repeat (first | refine blk_drewN ?_ _ | refine blk_drew ?_ | refine blk_alloc ?_ _)); refine blk_put (cs := #[.slice none 0 0, .int .i64 0]) ?_ 0 _ rfl; (with_reducible repeat (first | refine blk_drewN ?_ _ | refine blk_drew ?_ | refine blk_alloc ?_ _)); exact BK195.out) Try.underlying29 rfl (by kernel_rfl)) rfl ?_
          exact ⟨_, _, by first | rfl | (simp [errW_none, errW_some] <;> rfl) | (simp [*, errW_none, errW_some] <;> rfl), by (with_reducible repeat (first | apply Kd.V_alloc | apply Kd.V_drewN | apply Kd.V_drew)); exact Kd.V_mono (Kd.V_far (p := ⟨gb195, 1, none⟩) (Kd.V_far (p := ⟨gb195, 0, none⟩) (Kd.V_mono HO230.out (fun k_ hk => (⟨hk, hk.2⟩ : _ ∧ k_ ≠ gb195))) (fun _ hk => hk.2) (.slice A52 y226.length c52)) (fun _ hk => hk.2) (.int .i64 a0_1)) (fun _ hk => hk.1.1.1), by (with_reducible repeat (first | apply Kd.V_alloc | apply Kd.V_drewN | apply Kd.V_drew)); exact Kd.V_mono (Kd.V_far (p := ⟨gb195, 1, none⟩) (Kd.V_far (p := ⟨gb195, 0, none⟩) (Kd.V_mono HO235.out (fun k_ hk => (⟨hk, hk.2⟩ : _ ∧ k_ ≠ gb195))) (fun _ hk => hk.2) (.slice A52 y226.length c52)) (fun _ hk => hk.2) (.int .i64 a0_1)) (fun _ hk => hk.1.1.1), by repeat (first | (with_reducible first | exact HB.out | apply below_alloc | apply pw_below_drewN | apply below_drew1 | refine below_set ?_ GE194.out | refine below_set ?_ GE195.out) | exact HB.out)⟩
        · rw [if_neg c44] at H
          exact absurd H (by simp)
      · rw [if_neg c43] at H
        exact absurd H (by simp)

end Go.Proofs.Ytoefbobjiepbeaa.MQueueActs
