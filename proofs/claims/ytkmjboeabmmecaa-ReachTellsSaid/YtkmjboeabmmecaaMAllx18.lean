/- The functions that the law reaches in plain Lean, and that the calls come to what these say. No condition. (By wip/myprint.py, this session's program over the kit's print.) -/
import Derived.Test.YtkmjboeabmmecaaMAllx16
namespace Go.Proofs.Ytkmjboeabmmecaa.MAll
open Go.RowKit Go.Proofs.YtkmjboeabmmecaaW.PrintWords Go.Proofs.YtkmjboeabmmecaaW.PrintLast Go.Proofs.YtkmjboeabmmecaaW.PrintMore
attribute [local go_sem] max2_int min2_int max_two min_two max_three min_three max_four min_four
set_option linter.unusedVariables false
set_option linter.unusedSimpArgs false
def queue_Drain_int.f (l0_0 : List Int) (a0_1 : Int) (a1 : Int) : Option (List Int × Int × List Int) := if 0 ≤ (mx 0 (mn a1 (l0_0.length : Int))) then (if (mx 0 (mn a1 (l0_0.length : Int))) ≤ (l0_0.length : Int) then ((queue_Queue_int_with.f l0_0 a0_1 (l0_0.drop ((mx 0 (mn a1 (l0_0.length : Int))) : Int).toNat)).bind fun bt561 => (some (bt561.1, bt561.2, (l0_0.take ((mx 0 (mn a1 (l0_0.length : Int))) : Int).toNat)))) else (none)) else (none)
def queue_Drain_int.T2 : Bool × List (List Nat × List Nat) := (true, [([], []), ([], []), ([1], [1]), ([], []), ([2, 3], [2, 3]), ([0, 4], [0, 4]), ([], []), ([6], [6]), ([], []), ([7, 8], [7, 8]), ([5, 5, 0, 1, 2, 3, 4, 5], [5]), ([9, 10, 0, 1, 2, 3, 4, 5, 6, 7, 8, 9, 10], [9])])
def queue_Drain_int.B2 : List Nat := [0, 0, 2, 0, 14, 31, 0, 64, 0, 448, 63, 2047]
theorem queue_Drain_int.tab2 : rtab .any (opsOf Try.f135 2) = queue_Drain_int.T2 := by kernel_rfl
theorem queue_Drain_int.bits2 : waitsOk queue_Drain_int.T2.2 queue_Drain_int.B2 = true := by kernel_rfl
set_option maxHeartbeats 8000000 in
set_option maxRecDepth 100000 in
theorem queue_Drain_int.calls (P0_0_ : Nat → Prop) (A0_0 : Option Addr) (c0_0 : Nat) (l0_0 : List Int) (a0_1 : Int) (a1 : Int) (r1 : List Int) (r2 : Int) (r3 : List Int) (w : World) (hs0_0 : Kd.V (Kd.int .i64) 3 w w.heap.size (fun k_ => P0_0_ k_) (.slice A0_0 l0_0.length c0_0) l0_0) (h : queue_Drain_int.f l0_0 a0_1 a1 = some (r1, r2, r3)) :
  Calls Try.prog 135 #[.agg #[.slice A0_0 l0_0.length c0_0, .int .i64 a0_1], .int .i64 a1] w fun e w' => ∃ v0_ v2_ : Value, e = .returned (.tuple #[.agg #[v0_, .int .i64 r2], v2_]) ∧ Kd.V (Kd.int .i64) 3 w' w.heap.size (fun k_ => (P0_0_ k_ ∨ w.heap.size ≤ k_)) v0_ r1 ∧ Kd.V (Kd.int .i64) 3 w' w.heap.size (fun k_ => (P0_0_ k_ ∨ w.heap.size ≤ k_)) v2_ r3 ∧ Below w.heap.size w w' := by
 have hu134 := Try.underlying134
 have HO0_0 := Aside0.mk (show Kd.V (Kd.int .i64) 3 w w.heap.size (fun k_ => (P0_0_ k_ ∨ w.heap.size ≤ k_)) (.slice A0_0 l0_0.length c0_0) l0_0 from Kd.V_mono hs0_0 (fun k_ hk => .inl hk))
 have HB := Aside0.mk (Below.refl w.heap.size w)
 have H : (if 0 ≤ (mx 0 (mn a1 (l0_0.length : Int))) then (if (mx 0 (mn a1 (l0_0.length : Int))) ≤ (l0_0.length : Int) then ((queue_Queue_int_with.f l0_0 a0_1 (l0_0.drop ((mx 0 (mn a1 (l0_0.length : Int))) : Int).toNat)).bind fun bt561 => (some (bt561.1, bt561.2, (l0_0.take ((mx 0 (mn a1 (l0_0.length : Int))) : Int).toNat)))) else (none)) else (none)) = some (r1, r2, r3) := h
 clear h
 obtain ⟨ji3, hji3⟩ : ∃ j_ : Int, (mn a1 (l0_0.length : Int)) = j_ := ⟨_, rfl⟩
 replace H : (if 0 ≤ (mx 0 (ji3)) then (if (mx 0 (ji3)) ≤ (l0_0.length : Int) then ((queue_Queue_int_with.f l0_0 a0_1 (l0_0.drop ((mx 0 (ji3)) : Int).toNat)).bind fun bt561 => (some (bt561.1, bt561.2, (l0_0.take ((mx 0 (ji3)) : Int).toNat)))) else (none)) else (none)) = some (r1, r2, r3) := by first | (rw [hji3] at H; exact H) | (simp only [hji3] at H ⊢; exact H)
 have hji3_ : (if (l0_0.length : Int) < a1 then (l0_0.length : Int) else a1) = ji3 := hji3
 obtain ⟨ji4, hji4⟩ : ∃ j_ : Int, (mx 0 (ji3)) = j_ := ⟨_, rfl⟩
 replace H : (if 0 ≤ (ji4) then (if (ji4) ≤ (l0_0.length : Int) then ((queue_Queue_int_with.f l0_0 a0_1 (l0_0.drop ((ji4) : Int).toNat)).bind fun bt561 => (some (bt561.1, bt561.2, (l0_0.take ((ji4) : Int).toNat)))) else (none)) else (none)) = some (r1, r2, r3) := by first | (rw [hji4] at H; exact H) | (simp only [hji4] at H ⊢; exact H)
 have hji4_ : (if 0 < (ji3) then (ji3) else 0) = ji4 := hji4
 by_cases c5 : 0 ≤ (ji4)
 ·rw [if_pos c5] at H
  have c5b0 := eq_true c5
  have c5b1 : decide (0 ≤ (ji4)) = true := decide_eq_true c5
  clear c5
  by_cases c6 : (ji4) ≤ (l0_0.length : Int)
  ·rw [if_pos c6] at H
   have c6b0 := eq_true c6
   have c6b1 : decide ((ji4) ≤ (l0_0.length : Int)) = true := decide_eq_true c6
   clear c6
   obtain ⟨y556, hy556⟩ : ∃ y_ : List Int, y_ = (l0_0.drop ((ji4) : Int).toNat) := ⟨_, rfl⟩
   replace H : ((queue_Queue_int_with.f l0_0 a0_1 y556).bind fun bt561 => (some (bt561.1, bt561.2, (l0_0.take ((ji4) : Int).toNat)))) = some (r1, r2, r3) := by first | (rw [hy556]; with_reducible exact H) | (have H2_ := (Option.bind_some _ _).symm.trans H; rw [hy556]; with_reducible exact H2_) | (have H2_ := (Option.bind_some _ _).symm.trans H; with_reducible exact H2_) | with_reducible exact H | (rw [hy556]; exact H) | exact H
   have Ny556 := Aside0.mk hy556
   clear hy556
   replace H := Option.bind_eq_some_iff.mp H
   obtain ⟨⟨t561, t564⟩, A70, H⟩ := H
   replace H : (some (t561, t564, (l0_0.take ((ji4) : Int).toNat))) = some (r1, r2, r3) := H
   have A7 := Aside0.mk A70
   clear A70
   have c8b0 := eq_true (oT : 0 ≤ (ji4))
   have c9b0 := eq_true (oT : (ji4) ≤ (l0_0.length : Int))
   obtain ⟨y565, hy565⟩ : ∃ y_ : List Int, y_ = (l0_0.take ((ji4) : Int).toNat) := ⟨_, rfl⟩
   replace H : (some (t561, t564, y565)) = some (r1, r2, r3) := by first | (rw [hy565]; with_reducible exact H) | (have H2_ := (Option.bind_some _ _).symm.trans H; rw [hy565]; with_reducible exact H2_) | (have H2_ := (Option.bind_some _ _).symm.trans H; with_reducible exact H2_) | with_reducible exact H | (rw [hy565]; exact H) | exact H
   have Ny565 := Aside0.mk hy565
   clear hy565
   simp only [Option.some.injEq, Prod.mk.injEq] at H
   obtain ⟨rfl, rfl, rfl⟩ := H
   go_enter Try.func135, Try.ntmps135
   try go_wp2_with (first | ((with_reducible refine gate_dst (N := 2) rfl ?_); refine box_event ?hg (N := 2) ?hd (cs := #[.slice A0_0 l0_0.length c0_0, .int .i64 a0_1]) (t := 134) ?hr ?_; (case hd => rfl); (case hg => rfl); (case hr => first | (go_simp; done) | (go_simp; rfl)); intro gb554 hg w10 hbox hb; have n0_ := Aside0.mk (Kd.V_below (Kd.V_elderB (by (with_reducible repeat (first | apply Kd.V_alloc | apply Kd.V_drewN | apply Kd.V_drew)); exact HO0_0.out) gb554 (Nat.le_of_eq hg.symm)) hb); have n1_ := Aside0.mk (below_step bT hb); have n2_ := Aside0.mk (hbox); have n3_ := Aside0.mk (gT hg bT); have n4_ := Aside0.mk (gT hg bT); clear HO0_0; clear HB; have HO0_0 := n0_; have HB := n1_; have BK554 := n2_; have GW554 := n3_; have GE554 := n4_; clear n0_ n1_ n2_ n3_ n4_; clear hb hbox hg) | ((with_reducible refine gate_dst (N := 4) rfl ?_); refine box_event ?hg (N := 4) ?hd (cs := #[.slice none 0 0, .int .i64 0]) (t := 134) ?hr ?_; (case hd => rfl); (case hg => rfl); (case hr => first | (go_simp; done) | (go_simp; rfl)); intro gb555 hg w11 hbox hb; have n0_ := Aside0.mk (Kd.V_below (Kd.V_elderB (by (with_reducible repeat (first | apply Kd.V_alloc | apply Kd.V_drewN | apply Kd.V_drew)); exact HO0_0.out) gb555 (Nat.le_of_eq hg.symm)) hb); have n1_ := Aside0.mk (blk_below (g := gb554) (o := .cells #[.slice A0_0 l0_0.length c0_0, .int .i64 a0_1] 134 (0, 0)) (kT BK554.out) hb); have n2_ := Aside0.mk (below_step (bG GE554.out) hb); have n3_ := Aside0.mk (hbox); have n4_ := Aside0.mk (gT hg (bG GE554.out)); have n5_ := Aside0.mk (gT hg (bG GE554.out)); have n6_ := Aside0.mk ((by rw [hg]; exact Nat.ne_of_lt (blk_lt (g := gb554) (o := .cells #[.slice A0_0 l0_0.length c0_0, .int .i64 a0_1] 134 (0, 0)) (kT BK554.out)) : gb554 ≠ gb555)); have n7_ := Aside0.mk ((by rw [hg]; exact Nat.ne_of_gt (blk_lt (g := gb554) (o := .cells #[.slice A0_0 l0_0.length c0_0, .int .i64 a0_1] 134 (0, 0)) (kT BK554.out)) : gb555 ≠ gb554)); clear HO0_0; clear BK554; clear HB; have HO0_0 := n0_; have BK554 := n1_; have HB := n2_; have BK555 := n3_; have GW555 := n4_; have GE555 := n5_; have NB554_555 := n6_; have NB555_554 := n7_; clear n0_ n1_ n2_ n3_ n4_ n5_ n6_ n7_; clear hb hbox hg; have hnb12 := NB554_555.out; have hnc12 := NB555_554.out; have hcz13_0 : w11.cell? ⟨gb554, 0, none⟩ = some (.slice A0_0 l0_0.length c0_0) := (blk_cell BK554.out 0).trans rfl; have hcz13_1 : w11.cell? ⟨gb554, 1, none⟩ = some (.int .i64 a0_1) := (blk_cell BK554.out 1).trans rfl; have hfz13_0 := blk_frozen BK554.out 0; have hfz13_1 := blk_frozen BK554.out 1))
   have n0_ := Aside0.mk (Kd.V_drew HO0_0.out)
   have n1_ := Aside0.mk (blk_drew BK554.out)
   have n2_ := Aside0.mk (blk_drew BK555.out)
   have n3_ := Aside0.mk (below_drew1 HB.out)
   clear HO0_0
   clear BK554
   clear BK555
   clear HB
   have HO0_0 := n0_
   have BK554 := n1_
   have BK555 := n2_
   have HB := n3_
   clear n0_ n1_ n2_ n3_
   have q15 : ((ji4) : Int) ≤ ((l0_0.length : Int) : Int) := oT
   obtain ⟨i015, hi015, _, hsz15, _⟩ := info_parts info3
   have hroom15 : l0_0.length ≤ c0_0 := (Kd.V_reads' HO0_0.out).2.1
   have hC15 : Kd.F (Kd.int .i64) _ _ A0_0 l0_0.length l0_0 := (Kd.V_at (base := w.heap.size) HO0_0.out).2.2
   have q015 : (0 : Int) ≤ ((ji4) : Int) := oT
   have hcut15 := cut_from (P := Try.prog) 27 3 .i64 Try.underlying27 hi015 1 hsz15 A0_0 l0_0.length c0_0 (ji4) q015 q15
   have hr15 := Kd.F_cut (m := ((ji4) : Int).toNat) (c := c0_0) hC15 (by omega) hroom15
   obtain ⟨A15, hA15⟩ : ∃ A1, A1 = (if c0_0 = ((ji4) : Int).toNat then A0_0 else (A0_0 : Option Addr).map (·.add (((ji4) : Int).toNat * 1))) := ⟨_, rfl⟩
   obtain ⟨c15, hc15⟩ : ∃ c1, c1 = c0_0 - ((ji4) : Int).toNat := ⟨_, rfl⟩
   have hy15 : y556.length = l0_0.length - ((ji4) : Int).toNat := (by rw [Ny556.out, List.length_drop] <;> omega)
   rw [show (l0_0).drop ((ji4) : Int).toNat = y556 from Ny556.out.symm] at hr15
   replace hr15 : Kd.F (Kd.int .i64) _ _ A15 y556.length y556 := (by rw [hA15]; exact hr15)
   rw [← hy15, ← hA15, ← hc15] at hcut15
   have HO560 := Aside0.mk (show Kd.V (Kd.int .i64) 3 _ w.heap.size _ (.slice A15 y556.length c15) y556 from Kd.V_mk (by rw [hy15, hc15]; exact Nat.sub_le_sub_right hroom15 _) hr15)
   have HC560 := Aside0.mk (show y556.length ≤ c15 from by rw [hy15, hc15]; exact Nat.sub_le_sub_right hroom15 _)
   clear hr15 hC15 hroom15 hi015 hsz15 hc15
   have KY15 := Aside0.mk hy15
   have KA15 := Aside0.mk hA15
   clear hy15 hA15
   replace q15 := eq_true q15
   have q16 : ((ji4) : Int) ≤ ((l0_0.length : Int) : Int) := oT
   obtain ⟨i016, hi016, _, hsz16, _⟩ := info_parts info3
   have hroom16 : l0_0.length ≤ c0_0 := (Kd.V_reads' HO0_0.out).2.1
   have hC16 : Kd.F (Kd.int .i64) _ _ A0_0 l0_0.length l0_0 := (Kd.V_at (base := w.heap.size) HO0_0.out).2.2
   have hcut16 := cut_to (P := Try.prog) 27 3 .i64 Try.underlying27 hi016 A0_0 l0_0.length c0_0 (ji4) (oT) q16 hroom16
   have hr16 := Kd.F_take (m := ((ji4) : Int).toNat) hC16 (by omega)
   have hy16 : y565.length = ((ji4) : Int).toNat := (by rw [Ny565.out, List.length_take]; omega)
   rw [← Ny565.out] at hr16
   rw [← hy16] at hcut16
   have HO569 := Aside0.mk (show Kd.V (Kd.int .i64) 3 _ w.heap.size _ (.slice A0_0 y565.length c0_0) y565 from Kd.V_mk (by omega) hr16)
   have HC569 := Aside0.mk (show y565.length ≤ c0_0 from by omega)
   clear hr16 hC16 hroom16 hi016 hsz16
   have KY16 := Aside0.mk hy16
   clear hy16
   replace q16 := eq_true q16
   refine start_ (n := 12) (S := fun w' => w'.cell? ⟨gb554, 0, none⟩ = some (.slice A0_0 l0_0.length c0_0) ∧ w'.cell? ⟨gb554, 1, none⟩ = some (.int .i64 a0_1)) (ds := []) (bA 12 0) (by kernel_rfl) rfl rfl ⟨(blk_cell BK554.out 0).trans rfl, (blk_cell BK554.out 1).trans rfl⟩ (fun hHeld => ?_); refine with_tabW queue_Drain_int.tab2 queue_Drain_int.bits2 (fun HT_ HW_ => ?_)
   generalize w11.drew = w14 at HO0_0 BK554 BK555 HB HO560 HO569 hHeld ⊢
   refine pure_ (i := 1) (N := some 13) (v := ?_) (a' := ?_) (bA 12 2) rfl rfl (an_ HT_.out) (fun _ _ _ h => h) (Or.inl ⟨by rfl, ?_⟩) ?_ ?_
   rotate_left
   ·intro w'
    go_simp
    with_reducible rfl
   rotate_left
   ·simp only [Act.put, q1, q2, q3, i64_w, i32_w]
    rfl
   refine pure_ (i := 3) (N := some 15) (v := ?_) (a' := ?_) (bA 12 10) rfl rfl (an_ HT_.out) (fun _ _ _ h => h) (Or.inl ⟨by rfl, ?_⟩) ?_ ?_
   rotate_left
   ·intro w'
    go_simp
    with_reducible rfl
   rotate_left
   ·simp only [Act.put, q1, q2, q3, i64_w, i32_w]
    rfl
   refine pure_ (i := 6) (N := some 18) (v := ?_) (a' := ?_) (bA 12 74) rfl rfl (an_ HT_.out) (fun _ _ _ h => h) (Or.inl ⟨by rfl, ?_⟩) ?_ ?_
   rotate_left
   ·intro w'
    go_simp
    with_reducible rfl
   rotate_left
   ·simp only [Act.put, q1, q2, q3, i64_w, i32_w]
    rfl
   refine pure_ (i := 8) (N := some 20) (v := ?_) (a' := ?_) (bA 12 330) rfl rfl (an_ HT_.out) (fun _ _ _ h => h) (Or.inl ⟨by rfl, ?_⟩) ?_ ?_
   rotate_left
   ·intro w'
    go_simp
    with_reducible rfl
   rotate_left
   ·simp only [Act.put, q1, q2, q3, i64_w, i32_w]
    rfl
   refine take_ (i := 0) (N := some 12) (v := ?_) (a' := ?_) (bA 12 331) rfl rfl (tw_ HT_.out HW_.out) (fun _ _ _ h => h) (Or.inl ⟨by rfl, ?_⟩) hHeld ?_ ?_
   rotate_left
   ·rintro w' ⟨s0, s1⟩
    try simp only [Int.toNat_natCast] at s0 s1
    go_simp
    with_reducible rfl
   rotate_left
   ·simp only [Act.put, q1, q2, q3, i64_w, i32_w]
    rfl
   refine take_ (i := 2) (N := some 14) (v := ?_) (a' := ?_) (bA 12 335) rfl rfl (tw_ HT_.out HW_.out) (fun _ _ _ h => h) (Or.inl ⟨by rfl, ?_⟩) hHeld ?_ ?_
   rotate_left
   ·rintro w' ⟨s0, s1⟩
    try simp only [Int.toNat_natCast] at s0 s1
    go_simp
    with_reducible rfl
   rotate_left
   ·simp only [Act.put, q1, q2, q3, i64_w, i32_w]
    rfl
   refine pure_ (i := 4) (N := some 16) (v := ?_) (a' := ?_) (bA 12 351) rfl rfl (an_ HT_.out) (fun _ _ _ h => h) (Or.inl ⟨by rfl, ?_⟩) ?_ ?_
   rotate_left
   ·intro w'
    go_simp
    with_reducible rfl
   rotate_left
   ·simp only [Act.put, q1, q2, q3, i64_w, i32_w]
    rfl
   refine take_ (i := 7) (N := some 19) (v := ?_) (a' := ?_) (bA 12 479) rfl rfl (tw_ HT_.out HW_.out) (fun _ _ _ h => h) (Or.inl ⟨by rfl, ?_⟩) hHeld ?_ ?_
   rotate_left
   ·rintro w' ⟨s0, s1⟩
    try simp only [Int.toNat_natCast] at s0 s1
    go_simp
    with_reducible rfl
   rotate_left
   ·simp only [Act.put, q1, q2, q3, i64_w, i32_w]
    rfl
   refine pure_ (i := 9) (N := some 21) (v := ?_) (a' := ?_) (bA 12 991) rfl rfl (an_ HT_.out) (fun _ _ _ h => h) (Or.inl ⟨by rfl, ?_⟩) ?_ ?_
   rotate_left
   ·intro w'
    go_simp
    with_reducible rfl
   rotate_left
   ·simp only [Act.put, q1, q2, q3, i64_w, i32_w]
    rfl
   refine one_ (i := 5) (N := some 17) (bA 12 1023) rfl rfl (one_of HT_.out (by kernel_rfl)) (by decide) (fun K hK => ?_)
   refine goes_ Try.func134 (by kernel_rfl) rfl #[.agg #[.slice A0_0 l0_0.length c0_0, .int .i64 a0_1], .slice A15 y556.length c15] (by rfl) rfl rfl mT ?_
   with_reducible refine (queue_Queue_int_with.calls _ _ l0_0 a0_1 (fun k_ => (((P0_0_ k_ ∨ w.heap.size ≤ k_) ∧ k_ ≠ gb554) ∧ k_ ≠ gb555)) _ _ y556 t561 t564 _ ?side1 ?side2 ?side3 A7.out).mono ?_
   (case side1 => repeat (first | exact (Kd.V_reads' HO0_0.out).2.2 | (with_reducible refine Kd.C_alloc ?_ _) | (with_reducible refine Kd.C_drewN ?_ _) | (with_reducible refine Kd.C_drew ?_)))
   (case side2 => exact (Kd.V_reads' HO0_0.out).2.1)
   (case side3 => exact HO560.out)
   rintro e w17 ⟨v562, rfl, ho0, hb⟩
   refine ⟨_, rfl, ?_⟩
   have n0_ := Aside0.mk (Kd.V_below (by (with_reducible repeat (first | apply Kd.V_alloc | apply Kd.V_drewN | apply Kd.V_drew)); exact HO0_0.out) hb)
   have n1_ := Aside0.mk (Kd.V_below (by (with_reducible repeat (first | apply Kd.V_alloc | apply Kd.V_drewN | apply Kd.V_drew)); exact HO560.out) hb)
   have n2_ := Aside0.mk (Kd.V_below (by (with_reducible repeat (first | apply Kd.V_alloc | apply Kd.V_drewN | apply Kd.V_drew)); exact HO569.out) hb)
   have n3_ := Aside0.mk (Kd.V_lower (Kd.V_mono (ok' := fun k_ => (P0_0_ k_ ∨ w.heap.size ≤ k_) ∧ k_ ≠ gb554 ∧ k_ ≠ gb555) ho0 (fun k_ hk_ => ⟨Or.elim hk_ (fun hs_ => hs_.1.1) (fun hn_ => (.inr (Nat.le_trans (below_size (bH GE554.out GE555.out)) hn_))), Or.elim hk_ (fun hs_ => hs_.1.2) (fun hn_ => (Kd.freshB (g := gb554) (o := .cells #[.slice A0_0 l0_0.length c0_0, .int .i64 a0_1] 134 (0, 0)) (kT BK554.out) k_ hn_)), Or.elim hk_ (fun hs_ => hs_.2) (fun hn_ => (Kd.freshB (g := gb555) (o := .cells #[.slice none 0 0, .int .i64 0] 134 (0, 0)) (kT BK555.out) k_ hn_))⟩)) (below_size (bH GE554.out GE555.out)))
   have n4_ := Aside0.mk (blk_below (g := gb554) (o := .cells #[.slice A0_0 l0_0.length c0_0, .int .i64 a0_1] 134 (0, 0)) (kT BK554.out) hb)
   have n5_ := Aside0.mk (blk_below (g := gb555) (o := .cells #[.slice none 0 0, .int .i64 0] 134 (0, 0)) (kT BK555.out) hb)
   have n6_ := Aside0.mk (below_step (bH GE554.out GE555.out) hb)
   clear HO0_0
   clear HO560
   clear HO569
   clear BK554
   clear BK555
   clear HB
   have HO0_0 := n0_
   have HO560 := n1_
   have HO569 := n2_
   have HO563 := n3_
   have BK554 := n4_
   have BK555 := n5_
   have HB := n6_
   clear n0_ n1_ n2_ n3_ n4_ n5_ n6_
   (try clear hb)
   (try clear hb2)
   (try clear hk)
   (try clear hi)
   (try clear ho0)
   obtain ⟨Ao18, co18, eo18⟩ := Kd.V_slice HO563.out
   (first | subst eo18 | (injection eo18 with f1_ f2_ f3_; have f4_ := f1_.symm; have f5_ := f3_.symm; clear f1_ f2_ f3_; subst f4_; subst f5_))
   refine hK.out _ _ ⟨(blk_cell BK554.out 0).trans rfl, (blk_cell BK554.out 1).trans rfl⟩ (fun hHeld => ?_)
   clear hK K
   refine norm_ (a' := ?_) ?_ ?_
   rotate_left
   ·show Act.put _ (some 17) _ = _
    simp only [Act.put, q1, q2, q3, i64_w, i32_w]
    rfl
   refine one_ (i := 10) (N := none) (bA 12 2047) rfl rfl (one_of HT_.out (by kernel_rfl)) (by decide) (fun K hK => ?_)
   have hs19 : w17.cell? ⟨gb555, 0, none⟩ = some (.slice none 0 0) := (blk_cell BK555.out 0).trans rfl
   have hfs19 := blk_frozen BK555.out 0
   have hns19_0 := NB554_555.out
   have hms19_0 := NB555_554.out
   have hs20 : w17.cell? ⟨gb555, 1, none⟩ = some (.int .i64 0) := (blk_cell BK555.out 1).trans rfl
   have hfs20 := blk_frozen BK555.out 1
   have hns20_0 := NB554_555.out
   have hms20_0 := NB555_554.out
   refine skip_ (w1 := ?_) (by rfl) rfl ?_ ?_
   rotate_left
   ·go_simp
    rfl
   refine hK.out _ _ ⟨((cell_far (p := ⟨gb555, _, none⟩) NB554_555.out _).trans (((cell_far (p := ⟨gb555, _, none⟩) NB554_555.out _).trans (hHeld.1)))), ((cell_far (p := ⟨gb555, _, none⟩) NB554_555.out _).trans (((cell_far (p := ⟨gb555, _, none⟩) NB554_555.out _).trans (hHeld.2))))⟩ (fun hHeld => ?_)
   clear hK K
   refine pure_ (i := 11) (N := some 5) (v := ?_) (a' := ?_) (bA 12 4095) rfl rfl (an_ HT_.out) (fun _ _ _ h => h) (Or.inl ⟨by rfl, ?_⟩) ?_ ?_
   rotate_left
   ·intro w'
    go_simp
    with_reducible rfl
   rotate_left
   ·simp only [Act.put, q1, q2, q3, i64_w, i32_w]
    rfl
   refine done_ (done_of HT_.out (by kernel_rfl)) ?_
   try go_wp2
   refine bodyPost_ret (results_ct rfl _ _ gb555 134 #[.slice Ao18 t561.length co18, .int .i64 t564] (0, 0) _ rfl (by (with_reducible repeat (first | refine blk_drewN ?_ _ | refine blk_drew ?_ | refine blk_alloc ?_ _)); refine blk_put (cs := #[.slice Ao18 t561.length co18, .int .i64 0]) ?_ 1 _ rfl; (with_reducible repeat (first | refine blk_drewN ?_ _ | refine blk_drew ?_ | refine blk_alloc ?_ _)); refine blk_put (cs := #[.slice none 0 0, .int .i64 0]) ?_ 0 _ rfl; (with_reducible repeat (first | refine blk_drewN ?_ _ | refine blk_drew ?_ | refine blk_alloc ?_ _)); exact BK555.out) Try.underlying134 rfl (by kernel_rfl)) rfl ?_
   exact ⟨_, _, by first | rfl | (simp [errW_none, errW_some] <;> rfl) | (simp only [← hji3, ← hji4]; first | rfl | (simp [errW_none, errW_some] <;> rfl)) | (simp [*, errW_none, errW_some] <;> rfl), by (with_reducible repeat (first | apply Kd.V_alloc | apply Kd.V_drewN | apply Kd.V_drew)); exact Kd.V_mono (Kd.V_far (p := ⟨gb555, 1, none⟩) (Kd.V_far (p := ⟨gb555, 0, none⟩) (Kd.V_mono HO563.out (fun k_ hk => (⟨hk, hk.2.2⟩ : _ ∧ k_ ≠ gb555))) (fun _ hk => hk.2) (.slice Ao18 t561.length co18)) (fun _ hk => hk.2) (.int .i64 t564)) (fun _ hk => hk.1.1), by (with_reducible repeat (first | apply Kd.V_alloc | apply Kd.V_drewN | apply Kd.V_drew)); exact Kd.V_mono (Kd.V_far (p := ⟨gb555, 1, none⟩) (Kd.V_far (p := ⟨gb555, 0, none⟩) (Kd.V_mono HO569.out (fun k_ hk => (⟨hk, hk.2⟩ : _ ∧ k_ ≠ gb555))) (fun _ hk => hk.2) (.slice Ao18 t561.length co18)) (fun _ hk => hk.2) (.int .i64 t564)) (fun _ hk => hk.1.1.1), by repeat (first | (with_reducible first | exact HB.out | apply below_alloc | apply pw_below_drewN | apply below_drew1 | refine below_set ?_ GE554.out | refine below_set ?_ GE555.out) | exact HB.out)⟩
  ·rw [if_neg c6] at H
   exact absurd H (by simp)
 ·rw [if_neg c5] at H
  exact absurd H (by simp)
end Go.Proofs.Ytkmjboeabmmecaa.MAll
