/- The functions that the law reaches in plain Lean, and that the calls come to what these say. No condition. (By wip/myprint.py, this session's program over the kit's print.) -/
import Derived.Test.YtkmjboeabmmecaaMAllx19
import Derived.Test.YtkmjboeabmmecaaMAllx20
namespace Go.Proofs.Ytkmjboeabmmecaa.MAll
open Go.RowKit Go.Proofs.YtkmjboeabmmecaaW.PrintWords Go.Proofs.YtkmjboeabmmecaaW.PrintLast Go.Proofs.YtkmjboeabmmecaaW.PrintMore
attribute [local go_sem] max2_int min2_int max_two min_two max_three min_three max_four min_four
set_option linter.unusedVariables false
set_option linter.unusedSimpArgs false
mutual
def mortmainref08_Closed.l0 : Nat → List Int → List Int → List Int → Int → List (S84) → Int → Int → Option (Bool)
 | 0, _, _, _, _, _, _, _ => none
 | k + 1, x1, x5, x6, x7, x683000, x683001, x683002 => if x7 < (x6.length : Int) then (if 0 ≤ x7 then ((mortmainref07_Out.f k x683000 x683001 x683002 (rd x6 x7)).bind fun t690 => ((mortmainref08_those.f k x5 t690 true).bind fun t693 => (mortmainref08_Closed.l1 k x1 x5 x6 x7 t693 0 x683000 x683001 x683002))) else (none)) else (some true)
def mortmainref08_Closed.l1 : Nat → List Int → List Int → List Int → Int → List Int → Int → List (S84) → Int → Int → Option (Bool)
 | 0, _, _, _, _, _, _, _, _, _ => none
 | k + 1, x1, x5, x6, x7, x8, x9, x683000, x683001, x683002 => if x9 < (x8.length : Int) then (if 0 ≤ x9 then ((mortmainref08_Has.f k x1 (rd x8 x9)).bind fun t697 => (if t697 = true then (mortmainref08_Closed.l1 k x1 x5 x6 x7 x8 (wrap64 (x9 + 1)) x683000 x683001 x683002) else (some false))) else (none)) else (mortmainref08_Closed.l0 k x1 x5 x6 (wrap64 (x7 + 1)) x683000 x683001 x683002)
end
def mortmainref08_Closed.f (k : Nat) (l0_0 : List (S84)) (a0_1 : Int) (a0_2 : Int) (l1 : List Int) : Option (Bool) := (mortmainref06_Live.f k l0_0 a0_1 a0_2).bind fun t683 => ((mortmainref08_those.f k t683 l1 true).bind fun t686 => (mortmainref08_Closed.l0 k l1 t683 t686 0 l0_0 a0_1 a0_2))
theorem mortmainref08_Closed.mono_l : ∀ k, (∀ y0 y1 y2 y3 y4 y5 y6, LeO (mortmainref08_Closed.l0 k y0 y1 y2 y3 y4 y5 y6) (mortmainref08_Closed.l0 (k + 1) y0 y1 y2 y3 y4 y5 y6)) ∧ (∀ y0 y1 y2 y3 y4 y5 y6 y7 y8, LeO (mortmainref08_Closed.l1 k y0 y1 y2 y3 y4 y5 y6 y7 y8) (mortmainref08_Closed.l1 (k + 1) y0 y1 y2 y3 y4 y5 y6 y7 y8))
 | 0 => ⟨fun _ _ _ _ _ _ _ r h => by simp [mortmainref08_Closed.l0] at h, fun _ _ _ _ _ _ _ _ _ r h => by simp [mortmainref08_Closed.l1] at h⟩
 | k + 1 => by
  obtain ⟨ih0, ih1⟩ := mortmainref08_Closed.mono_l k
  refine ⟨?_, ?_⟩
  ·intro y0 y1 y2 y3 y4 y5 y6
   unfold mortmainref08_Closed.l0
   repeat' first
   | (with_reducible exact ih0 _ _ _ _ _ _ _)
   | (with_reducible exact ih1 _ _ _ _ _ _ _ _ _)
   | (with_reducible exact mortmainref06_Live.mono _ _ _ _)
   | (with_reducible exact mortmainref07_Out.mono _ _ _ _ _)
   | (with_reducible exact mortmainref08_Has.mono _ _ _)
   | (with_reducible exact mortmainref08_those.mono _ _ _ _)
   | (with_reducible exact LeO.refl _)
   | (with_reducible exact LeO.none _)
   | (with_reducible refine LeO.ite ?_ ?_)
   | (with_reducible refine LeO.bind ?_ (fun _ => ?_))
   | exact ih0 _ _ _ _ _ _ _
   | exact ih1 _ _ _ _ _ _ _ _ _
   | exact mortmainref06_Live.mono _ _ _ _
   | exact mortmainref07_Out.mono _ _ _ _ _
   | exact mortmainref08_Has.mono _ _ _
   | exact mortmainref08_those.mono _ _ _ _
   | exact LeO.none _
   | refine LeO.ite ?_ ?_
   | refine LeO.bind ?_ (fun _ => ?_)
  ·intro y0 y1 y2 y3 y4 y5 y6 y7 y8
   unfold mortmainref08_Closed.l1
   repeat' first
   | (with_reducible exact ih0 _ _ _ _ _ _ _)
   | (with_reducible exact ih1 _ _ _ _ _ _ _ _ _)
   | (with_reducible exact mortmainref06_Live.mono _ _ _ _)
   | (with_reducible exact mortmainref07_Out.mono _ _ _ _ _)
   | (with_reducible exact mortmainref08_Has.mono _ _ _)
   | (with_reducible exact mortmainref08_those.mono _ _ _ _)
   | (with_reducible exact LeO.refl _)
   | (with_reducible exact LeO.none _)
   | (with_reducible refine LeO.ite ?_ ?_)
   | (with_reducible refine LeO.bind ?_ (fun _ => ?_))
   | exact ih0 _ _ _ _ _ _ _
   | exact ih1 _ _ _ _ _ _ _ _ _
   | exact mortmainref06_Live.mono _ _ _ _
   | exact mortmainref07_Out.mono _ _ _ _ _
   | exact mortmainref08_Has.mono _ _ _
   | exact mortmainref08_those.mono _ _ _ _
   | exact LeO.none _
   | refine LeO.ite ?_ ?_
   | refine LeO.bind ?_ (fun _ => ?_)
theorem mortmainref08_Closed.mono : ∀ a0 a1 a2 a3 k, LeO (mortmainref08_Closed.f k a0 a1 a2 a3) (mortmainref08_Closed.f (k + 1) a0 a1 a2 a3) := by
 intro a0 a1 a2 a3 k
 obtain ⟨ih0, ih1⟩ := mortmainref08_Closed.mono_l k
 unfold mortmainref08_Closed.f
 repeat' first
   | (with_reducible exact ih0 _ _ _ _ _ _ _)
   | (with_reducible exact ih1 _ _ _ _ _ _ _ _ _)
   | (with_reducible exact mortmainref06_Live.mono _ _ _ _)
   | (with_reducible exact mortmainref07_Out.mono _ _ _ _ _)
   | (with_reducible exact mortmainref08_Has.mono _ _ _)
   | (with_reducible exact mortmainref08_those.mono _ _ _ _)
   | (with_reducible exact LeO.refl _)
   | (with_reducible exact LeO.none _)
   | (with_reducible refine LeO.ite ?_ ?_)
   | (with_reducible refine LeO.bind ?_ (fun _ => ?_))
   | exact ih0 _ _ _ _ _ _ _
   | exact ih1 _ _ _ _ _ _ _ _ _
   | exact mortmainref06_Live.mono _ _ _ _
   | exact mortmainref07_Out.mono _ _ _ _ _
   | exact mortmainref08_Has.mono _ _ _
   | exact mortmainref08_those.mono _ _ _ _
   | exact LeO.none _
   | refine LeO.ite ?_ ?_
   | refine LeO.bind ?_ (fun _ => ?_)
def mortmainref08_Closed.T6 : Bool × List (List Nat × List Nat) := (true, [([], []), ([], []), ([], []), ([], []), ([2, 3], [2, 3]), ([4], [4]), ([1, 5], [1, 5]), ([0, 6, 6], [0, 6]), ([7, 7, 0, 1, 2, 3, 4, 5, 6, 7], [7])])
def mortmainref08_Closed.B6 : List Nat := [0, 0, 0, 0, 12, 28, 62, 127, 255]
theorem mortmainref08_Closed.tab6 : rtab .any (opsOf Try.f51 6) = mortmainref08_Closed.T6 := by kernel_rfl
theorem mortmainref08_Closed.bits6 : waitsOk mortmainref08_Closed.T6.2 mortmainref08_Closed.B6 = true := by kernel_rfl
set_option maxHeartbeats 8000000 in
set_option maxRecDepth 100000 in
theorem mortmainref08_Closed.calls (k : Nat) (A0_0 : Option Addr) (c0_0 : Nat) (l0_0 : List (S84)) (a0_1 : Int) (a0_2 : Int) (A1 : Option Addr) (c1 : Nat) (l1 : List Int) (r : Bool) (w : World) (hr0_0 : Kd.C k84 w A0_0 l0_0.length l0_0) (hc0_0 : l0_0.length ≤ c0_0) (hr1 : Kd.C (Kd.int .i64) w A1 l1.length l1) (hc1 : l1.length ≤ c1) (h : mortmainref08_Closed.f k l0_0 a0_1 a0_2 l1 = some r) :
  Calls Try.prog 51 #[.agg #[.slice A0_0 l0_0.length c0_0, .int .i64 a0_1, .int .i64 a0_2], .slice A1 l1.length c1] w fun e w' => e = .returned (.bool r) ∧ Below w.heap.size w w' := by
 have hu37 := Try.underlying37
 have HR0_0 := Aside0.mk hr0_0
 have HC0_0 := Aside0.mk hc0_0
 clear hr0_0 hc0_0
 have HR1 := Aside0.mk hr1
 have HC1 := Aside0.mk hc1
 clear hr1 hc1
 have HB := Aside0.mk (Below.refl w.heap.size w)
 have H : ((mortmainref06_Live.f k l0_0 a0_1 a0_2).bind fun t683 => ((mortmainref08_those.f k t683 l1 true).bind fun t686 => (mortmainref08_Closed.l0 k l1 t683 t686 0 l0_0 a0_1 a0_2))) = some r := h
 clear h
 replace H := Option.bind_eq_some_iff.mp H
 obtain ⟨t683, A30, H⟩ := H
 replace H : ((mortmainref08_those.f k t683 l1 true).bind fun t686 => (mortmainref08_Closed.l0 k l1 t683 t686 0 l0_0 a0_1 a0_2)) = some r := H
 have A3 := Aside0.mk A30
 clear A30
 replace H := Option.bind_eq_some_iff.mp H
 obtain ⟨t686, A40, H⟩ := H
 replace H : (mortmainref08_Closed.l0 k l1 t683 t686 0 l0_0 a0_1 a0_2) = some r := H
 have A4 := Aside0.mk A40
 clear A40
 have H' := Aside0.mk H
 clear H
 go_enter Try.func51, Try.ntmps51
 go_wp2_with (first | ((with_reducible refine gate_dst (N := 2) rfl ?_); refine box_event ?hg (N := 2) ?hd (cs := #[.slice A0_0 l0_0.length c0_0, .int .i64 a0_1, .int .i64 a0_2]) (t := 37) ?hr ?_; (case hd => rfl); (case hg => rfl); (case hr => first | (go_simp; done) | (go_simp; rfl)); intro gb682 hg w5 hbox hb; have n0_ := Aside0.mk (below_step bT hb); have n1_ := Aside0.mk (hbox); have n2_ := Aside0.mk (gT hg bT); have n3_ := Aside0.mk (gT hg bT); clear HB; have HB := n0_; have BK682 := n1_; have GW682 := n2_; have GE682 := n3_; clear n0_ n1_ n2_ n3_; clear hb hbox hg; have hcz6_0 : w5.cell? ⟨gb682, 0, none⟩ = some (.slice A0_0 l0_0.length c0_0) := (blk_cell BK682.out 0).trans rfl; have hcz6_1 : w5.cell? ⟨gb682, 1, none⟩ = some (.int .i64 a0_1) := (blk_cell BK682.out 1).trans rfl; have hcz6_2 : w5.cell? ⟨gb682, 2, none⟩ = some (.int .i64 a0_2) := (blk_cell BK682.out 2).trans rfl; have hfz6_0 := blk_frozen BK682.out 0; have hfz6_1 := blk_frozen BK682.out 1; have hfz6_2 := blk_frozen BK682.out 2) | ((with_reducible refine gate_callee (f := 34) rfl ?_); refine goesL_ (some 11) rfl rfl Try.func34 (by kernel_rfl) rfl #[.agg #[.slice A0_0 l0_0.length c0_0, .int .i64 a0_1, .int .i64 a0_2]] rfl mT ?_; (with_reducible refine (mortmainref06_Live.calls k _ _ l0_0 a0_1 a0_2 t683 _ ?side1 ?side2 A3.out).mono ?_); (case side1 => repeat (first | exact (Kd.C_below HR0_0.out HB.out) | (with_reducible refine Kd.C_alloc ?_ _) | (with_reducible refine Kd.C_drewN ?_ _) | (with_reducible refine Kd.C_drew ?_))); (case side2 => exact HC0_0.out); rintro e w7 ⟨v684, rfl, ho0, hb⟩; refine ⟨_, rfl, ?_⟩; have n0_ := Aside0.mk (Kd.R_lower ho0 (below_size (bG GE682.out))); have n1_ := Aside0.mk (blk_below (g := gb682) (o := .cells #[.slice A0_0 l0_0.length c0_0, .int .i64 a0_1, .int .i64 a0_2] 37 (0, 0)) (kT BK682.out) hb); have n2_ := Aside0.mk (below_step (bG GE682.out) hb); clear BK682; clear HB; have HO685 := n0_; have BK682 := n1_; have HB := n2_; clear n0_ n1_ n2_; (try clear hb); (try clear hb2); (try clear hk); (try clear hi); (try clear ho0); obtain ⟨Ao8, co8, eo8⟩ := Kd.R_slice HO685.out; subst eo8) | ((with_reducible refine gate_callee (f := 82) rfl ?_); refine goesL_ (some 14) rfl rfl Try.func82 (by kernel_rfl) rfl #[.slice Ao8 t683.length co8, .slice A1 l1.length c1, .bool true] rfl mT ?_; (with_reducible refine (mortmainref08_those.calls k _ _ t683 _ _ l1 true t686 _ ?side1 ?side2 ?side3 ?side4 A4.out).mono ?_); (case side1 => repeat (first | exact (Kd.R_reads' HO685.out).2.2 | (with_reducible refine Kd.C_alloc ?_ _) | (with_reducible refine Kd.C_drewN ?_ _) | (with_reducible refine Kd.C_drew ?_))); (case side2 => exact (Kd.R_reads' HO685.out).2.1); (case side3 => repeat (first | exact (Kd.C_below HR1.out HB.out) | (with_reducible refine Kd.C_alloc ?_ _) | (with_reducible refine Kd.C_drewN ?_ _) | (with_reducible refine Kd.C_drew ?_))); (case side4 => exact HC1.out); rintro e w9 ⟨v687, rfl, ho0, hb⟩; refine ⟨_, rfl, ?_⟩; have n0_ := Aside0.mk (Kd.R_elder' (rT HO685.out) (Kd.R_base ho0) hb); have n1_ := Aside0.mk (Kd.R_lower (Kd.R_new' ho0 (Kd.R_lt (rT HO685.out))) (below_size (bG GE682.out))); have n2_ := Aside0.mk (blk_below (g := gb682) (o := .cells #[.slice A0_0 l0_0.length c0_0, .int .i64 a0_1, .int .i64 a0_2] 37 (0, 0)) (kT BK682.out) hb); have n3_ := Aside0.mk (below_step (bG GE682.out) hb); clear HO685; clear BK682; clear HB; have HO685 := n0_; have HO688 := n1_; have BK682 := n2_; have HB := n3_; clear n0_ n1_ n2_ n3_; (try clear hb); (try clear hb2); (try clear hk); (try clear hi); (try clear ho0)))
 go_loopg [7] k (fun kq v7 w' => ∃ (x7_1 : Int), v7 = .int .i64 x7_1 ∧ Aside0 (mortmainref08_Closed.l0 kq l1 t683 t686 x7_1 l0_0 a0_1 a0_2 = some r) ∧ Aside0 (kq ≤ k) ∧ Aside0 (Kd.R (Kd.int .i64) 3 w' w.heap.size (fun k_ => some k_ ≠ (v687 : Value).ownBlock) (.slice Ao8 t683.length co8) t683) ∧ Aside0 (Kd.R (Kd.int .i64) 3 w' w.heap.size (fun k_ => some k_ ≠ ((.slice Ao8 t683.length co8) : Value).ownBlock) v687 t686) ∧ Aside0 (w'.heap[gb682]? = some (.cells #[(.slice A0_0 l0_0.length c0_0), .int .i64 a0_1, .int .i64 a0_2] 37 (0, 0))) ∧ Aside0 (Below w.heap.size w w'))
 case atStart => exact ⟨(0), (by first | rfl | (simp; done) | (simp [*]; done)), H', ⟨Nat.le_refl _⟩, ⟨by (with_reducible repeat (first | apply Kd.R_alloc | apply Kd.R_drewN | apply Kd.R_drew)); exact Kd.R_mono HO685.out (fun _ hk => hk.2)⟩, ⟨by (with_reducible repeat (first | apply Kd.R_alloc | apply Kd.R_drewN | apply Kd.R_drew)); exact Kd.R_mono HO688.out (fun _ hk => hk.2)⟩, ⟨by (with_reducible repeat (first | refine blk_drewN ?_ _ | refine blk_drew ?_ | refine blk_alloc ?_ _)); exact BK682.out⟩, ⟨by repeat (first | (with_reducible first | exact HB.out | apply below_alloc | apply pw_below_drewN | apply below_drew1 | refine below_set ?_ GE682.out) | exact HB.out)⟩⟩
 case round =>
  clear H'
  try clear c1
  try clear p2
  try clear c3
  try clear c5
  try clear c8
  try clear hcz6_0
  try clear hcz6_1
  try clear hcz6_2
  try clear hfz6_0
  try clear hfz6_1
  try clear hfz6_2
  obtain ⟨x7_1, rfl, HA, HK1, HO_5, HO_6, BK682, HB⟩ := hrel
  cases gk with
  | zero => exact absurd HA.out (by simp [mortmainref08_Closed.l0])
  | succ k1 =>
   have H := HA.out
   clear HA
   simp only [mortmainref08_Closed.l0] at H
   by_cases c10 : x7_1 < (t686.length : Int)
   ·rw [if_pos c10] at H
    have c10b0 : decide (x7_1 < (t686.length : Int)) = true := decide_eq_true c10
    clear c10
    by_cases c11 : 0 ≤ x7_1
    ·rw [if_pos c11] at H
     have c11b0 : decide (0 ≤ x7_1) = true := decide_eq_true c11
     clear c11
     replace H := Option.bind_eq_some_iff.mp H
     obtain ⟨t690, A120, H⟩ := H
     replace H : ((mortmainref08_those.f k1 t683 t690 true).bind fun t693 => (mortmainref08_Closed.l1 k1 l1 t683 t686 x7_1 t693 0 l0_0 a0_1 a0_2)) = some r := H
     have A12 := Aside0.mk A120
     clear A120
     replace H := Option.bind_eq_some_iff.mp H
     obtain ⟨t693, A130, H⟩ := H
     replace H : (mortmainref08_Closed.l1 k1 l1 t683 t686 x7_1 t693 0 l0_0 a0_1 a0_2) = some r := H
     have A13 := Aside0.mk A130
     clear A130
     have H' := Aside0.mk H
     clear H
     obtain ⟨Ao14, co14, eo14⟩ := Kd.R_slice HO_6.out
     subst eo14
     try go_wp2
     have n0_ := Aside0.mk (Kd.R_drew HO_5.out)
     have n1_ := Aside0.mk (Kd.R_drew HO_6.out)
     have n2_ := Aside0.mk (blk_drew BK682.out)
     have n3_ := Aside0.mk (below_drew1 HB.out)
     clear HO_5
     clear HO_6
     clear BK682
     clear HB
     have HO_5 := n0_
     have HO_6 := n1_
     have BK682 := n2_
     have HB := n3_
     clear n0_ n1_ n2_ n3_
     have p689 : 0 ≤ (x7_1 : Int) := oT
     have q689 : x7_1 < (t686.length : Int) := oT
     obtain ⟨ad689, e689, hx689_0⟩ := Kd.at_int (Kd.R_reads' HO_6.out).2.2 x7_1 p689 q689
     cases e689
     replace p689 := eq_true p689
     replace q689 := eq_true q689
     refine start_ (n := 9) (S := fun w' => w'.cell? ⟨gb682, 0, none⟩ = some (.slice A0_0 l0_0.length c0_0) ∧ w'.cell? ⟨gb682, 1, none⟩ = some (.int .i64 a0_1) ∧ w'.cell? ⟨gb682, 2, none⟩ = some (.int .i64 a0_2) ∧ w'.cell? (ad689.add (x7_1).toNat) = some (.int .i64 (rd t686 x7_1))) (ds := []) (bA 9 0) (by kernel_rfl) rfl rfl ⟨(blk_cell BK682.out 0).trans rfl, (blk_cell BK682.out 1).trans rfl, (blk_cell BK682.out 2).trans rfl, hx689_0⟩ (fun hHeld => ?_); refine with_tabW mortmainref08_Closed.tab6 mortmainref08_Closed.bits6 (fun HT_ HW_ => ?_)
     generalize wr.drew = w15 at HO_5 HO_6 BK682 HB hx689_0 hHeld ⊢
     refine pure_ (i := 0) (N := some 21) (v := ?_) (a' := ?_) (bA 9 1) rfl rfl (an_ HT_.out) (fun _ _ _ h => h) (Or.inl ⟨by rfl, ?_⟩) ?_ ?_
     rotate_left
     ·intro w'
      go_simp
      with_reducible rfl
     rotate_left
     ·simp only [Act.put, q1, q2, q3, i64_w, i32_w]
      rfl
     refine pure_ (i := 2) (N := some 23) (v := ?_) (a' := ?_) (bA 9 5) rfl rfl (an_ HT_.out) (fun _ _ _ h => h) (Or.inl ⟨by rfl, ?_⟩) ?_ ?_
     rotate_left
     ·intro w'
      go_simp
      with_reducible rfl
     rotate_left
     ·simp only [Act.put, q1, q2, q3, i64_w, i32_w]
      rfl
     refine pure_ (i := 3) (N := some 24) (v := ?_) (a' := ?_) (bA 9 13) rfl rfl (an_ HT_.out) (fun _ _ _ h => h) (Or.inl ⟨by rfl, ?_⟩) ?_ ?_
     rotate_left
     ·intro w'
      go_simp
      with_reducible rfl
     rotate_left
     ·simp only [Act.put, q1, q2, q3, i64_w, i32_w]
      rfl
     refine pure_ (i := 4) (N := some 25) (v := ?_) (a' := ?_) (bA 9 29) rfl rfl (an_ HT_.out) (fun _ _ _ h => h) (Or.inl ⟨by rfl, ?_⟩) ?_ ?_
     rotate_left
     ·intro w'
      go_simp
      with_reducible rfl
     rotate_left
     ·simp only [Act.put, q1, q2, q3, i64_w, i32_w]
      rfl
     refine take_ (i := 1) (N := some 22) (v := ?_) (a' := ?_) (bA 9 31) rfl rfl (tw_ HT_.out HW_.out) (fun _ _ _ h => h) (Or.inl ⟨by rfl, ?_⟩) hHeld ?_ ?_
     rotate_left
     ·rintro w' ⟨s0, s1, s2, s3⟩
      try simp only [Int.toNat_natCast] at s0 s1 s2 s3
      go_simp
      with_reducible rfl
     rotate_left
     ·simp only [Act.put, q1, q2, q3, i64_w, i32_w]
      rfl
     refine take_ (i := 5) (N := some 26) (v := ?_) (a' := ?_) (bA 9 63) rfl rfl (tw_ HT_.out HW_.out) (fun _ _ _ h => h) (Or.inl ⟨by rfl, ?_⟩) hHeld ?_ ?_
     rotate_left
     ·rintro w' ⟨s0, s1, s2, s3⟩
      try simp only [Int.toNat_natCast] at s0 s1 s2 s3
      go_simp
      with_reducible rfl
     rotate_left
     ·simp only [Act.put, q1, q2, q3, i64_w, i32_w]
      rfl
     refine one_ (i := 6) (N := some 27) (bA 9 127) rfl rfl (one_of HT_.out (by kernel_rfl)) (by decide) (fun K hK => ?_)
     refine goes_ Try.func83 (by kernel_rfl) rfl #[.agg #[.slice A0_0 l0_0.length c0_0, .int .i64 a0_1, .int .i64 a0_2], .int .i64 (rd t686 x7_1)] (by rfl) rfl rfl mT ?_
     with_reducible refine (mortmainref07_Out.calls k1 _ _ l0_0 a0_1 a0_2 (rd t686 x7_1) t690 _ ?side1 ?side2 A12.out).mono ?_
     (case side1 => repeat (first | exact (Kd.C_below HR0_0.out HB.out) | (with_reducible refine Kd.C_alloc ?_ _) | (with_reducible refine Kd.C_drewN ?_ _) | (with_reducible refine Kd.C_drew ?_)))
     (case side2 => exact HC0_0.out)
     rintro e w16 ⟨v691, rfl, ho0, hb⟩
     have HS3_ := (hb.cell (World.block_lt_of_cell? _ _ (hHeld.2.2.2))).trans (hHeld.2.2.2)
     refine ⟨_, rfl, ?_⟩
     have n0_ := Aside0.mk (Kd.R_elder' (rT HO_5.out) (Kd.R_base ho0) hb)
     have n1_ := Aside0.mk (Kd.R_elder' (rT HO_6.out) (Kd.R_base ho0) hb)
     have n2_ := Aside0.mk (Kd.R_lower (Kd.R_new' (Kd.R_new' ho0 (Kd.R_lt (rT HO_5.out))) (Kd.R_lt (rT HO_6.out))) (below_size (bG GE682.out)))
     have n3_ := Aside0.mk (blk_below (g := gb682) (o := .cells #[.slice A0_0 l0_0.length c0_0, .int .i64 a0_1, .int .i64 a0_2] 37 (0, 0)) (kT BK682.out) hb)
     have n4_ := Aside0.mk (below_step (bG GE682.out) hb)
     clear HO_5
     clear HO_6
     clear BK682
     clear HB
     have HO_5 := n0_
     have HO_6 := n1_
     have HO692 := n2_
     have BK682 := n3_
     have HB := n4_
     clear n0_ n1_ n2_ n3_ n4_
     (try clear hb)
     (try clear hb2)
     (try clear hk)
     (try clear hi)
     (try clear ho0)
     obtain ⟨Ao17, co17, eo17⟩ := Kd.R_slice HO692.out
     (first | subst eo17 | (injection eo17 with f1_ f2_ f3_; have f4_ := f1_.symm; have f5_ := f3_.symm; clear f1_ f2_ f3_; subst f4_; subst f5_))
     refine hK.out _ _ ⟨(blk_cell BK682.out 0).trans rfl, (blk_cell BK682.out 1).trans rfl, (blk_cell BK682.out 2).trans rfl, HS3_⟩ (fun hHeld => ?_)
     clear hK K
     refine norm_ (a' := ?_) ?_ ?_
     rotate_left
     ·show Act.put _ (some 27) _ = _
      simp only [Act.put, q1, q2, q3, i64_w, i32_w]
      rfl
     refine one_ (i := 7) (N := some 28) (bA 9 255) rfl rfl (one_of HT_.out (by kernel_rfl)) (by decide) (fun K hK => ?_)
     refine goes_ Try.func82 (by kernel_rfl) rfl #[.slice Ao8 t683.length co8, .slice Ao17 t690.length co17, .bool true] (by rfl) rfl rfl mT ?_
     with_reducible refine (mortmainref08_those.calls k1 _ _ t683 _ _ t690 true t693 _ ?side1 ?side2 ?side3 ?side4 A13.out).mono ?_
     (case side1 => repeat (first | exact (Kd.R_reads' HO_5.out).2.2 | (with_reducible refine Kd.C_alloc ?_ _) | (with_reducible refine Kd.C_drewN ?_ _) | (with_reducible refine Kd.C_drew ?_)))
     (case side2 => exact (Kd.R_reads' HO_5.out).2.1)
     (case side3 => repeat (first | exact (Kd.R_reads' HO692.out).2.2 | (with_reducible refine Kd.C_alloc ?_ _) | (with_reducible refine Kd.C_drewN ?_ _) | (with_reducible refine Kd.C_drew ?_)))
     (case side4 => exact (Kd.R_reads' HO692.out).2.1)
     rintro e w18 ⟨v694, rfl, ho0, hb⟩
     have HS3_ := (hb.cell (World.block_lt_of_cell? _ _ (hHeld.2.2.2))).trans (hHeld.2.2.2)
     refine ⟨_, rfl, ?_⟩
     have n0_ := Aside0.mk (Kd.R_elder' (rT HO_5.out) (Kd.R_base ho0) hb)
     have n1_ := Aside0.mk (Kd.R_elder' (rT HO_6.out) (Kd.R_base ho0) hb)
     have n2_ := Aside0.mk (Kd.R_elder' (rT HO692.out) (Kd.R_base ho0) hb)
     have n3_ := Aside0.mk (Kd.R_lower (Kd.R_new' (Kd.R_new' (Kd.R_new' ho0 (Kd.R_lt (rT HO_5.out))) (Kd.R_lt (rT HO_6.out))) (Kd.R_lt (rT HO692.out))) (below_size (bG GE682.out)))
     have n4_ := Aside0.mk (blk_below (g := gb682) (o := .cells #[.slice A0_0 l0_0.length c0_0, .int .i64 a0_1, .int .i64 a0_2] 37 (0, 0)) (kT BK682.out) hb)
     have n5_ := Aside0.mk (below_step (bG GE682.out) hb)
     clear HO_5
     clear HO_6
     clear HO692
     clear BK682
     clear HB
     have HO_5 := n0_
     have HO_6 := n1_
     have HO692 := n2_
     have HO695 := n3_
     have BK682 := n4_
     have HB := n5_
     clear n0_ n1_ n2_ n3_ n4_ n5_
     (try clear hb)
     (try clear hb2)
     (try clear hk)
     (try clear hi)
     (try clear ho0)
     refine hK.out _ _ ⟨(blk_cell BK682.out 0).trans rfl, (blk_cell BK682.out 1).trans rfl, (blk_cell BK682.out 2).trans rfl, HS3_⟩ (fun hHeld => ?_)
     clear hK K
     refine norm_ (a' := ?_) ?_ ?_
     rotate_left
     ·show Act.put _ (some 28) _ = _
      simp only [Act.put, q1, q2, q3, i64_w, i32_w]
      rfl
     refine pure_ (i := 8) (N := some 8) (v := ?_) (a' := ?_) (bA 9 511) rfl rfl (an_ HT_.out) (fun _ _ _ h => h) (Or.inl ⟨by rfl, ?_⟩) ?_ ?_
     rotate_left
     ·intro w'
      go_simp
      with_reducible rfl
     rotate_left
     ·simp only [Act.put, q1, q2, q3, i64_w, i32_w]
      rfl
     refine done_ (done_of HT_.out (by kernel_rfl)) ?_
     try go_wp2
     go_loopg [9] k1 (fun kq v9 w' => ∃ (x9_2 : Int), v9 = .int .i64 x9_2 ∧ Aside0 (mortmainref08_Closed.l1 kq l1 t683 t686 x7_1 t693 x9_2 l0_0 a0_1 a0_2 = some r) ∧ Aside0 (kq ≤ k1) ∧ Aside0 (Kd.R (Kd.int .i64) 3 w' w.heap.size (fun k_ => some k_ ≠ ((.slice (some ad689) t686.length co14) : Value).ownBlock ∧ some k_ ≠ (v694 : Value).ownBlock) (.slice Ao8 t683.length co8) t683) ∧ Aside0 (Kd.R (Kd.int .i64) 3 w' w.heap.size (fun k_ => some k_ ≠ ((.slice Ao8 t683.length co8) : Value).ownBlock ∧ some k_ ≠ (v694 : Value).ownBlock) (.slice (some ad689) t686.length co14) t686) ∧ Aside0 (Kd.R (Kd.int .i64) 3 w' w.heap.size (fun k_ => some k_ ≠ ((.slice Ao8 t683.length co8) : Value).ownBlock ∧ some k_ ≠ ((.slice (some ad689) t686.length co14) : Value).ownBlock) v694 t693) ∧ Aside0 (w'.heap[gb682]? = some (.cells #[(.slice A0_0 l0_0.length c0_0), .int .i64 a0_1, .int .i64 a0_2] 37 (0, 0))) ∧ Aside0 (Below w.heap.size w w'))
     case atStart => exact ⟨(0), (by first | rfl | (simp; done) | (simp [*]; done)), H', ⟨Nat.le_refl _⟩, ⟨by (with_reducible repeat (first | apply Kd.R_alloc | apply Kd.R_drewN | apply Kd.R_drew)); exact Kd.R_mono HO_5.out (fun _ hk => ⟨hk.1.1, hk.2⟩)⟩, ⟨by (with_reducible repeat (first | apply Kd.R_alloc | apply Kd.R_drewN | apply Kd.R_drew)); exact Kd.R_mono HO_6.out (fun _ hk => ⟨hk.1.1, hk.2⟩)⟩, ⟨by (with_reducible repeat (first | apply Kd.R_alloc | apply Kd.R_drewN | apply Kd.R_drew)); exact Kd.R_mono HO695.out (fun _ hk => ⟨hk.1.1.2, hk.1.2⟩)⟩, ⟨by (with_reducible repeat (first | refine blk_drewN ?_ _ | refine blk_drew ?_ | refine blk_alloc ?_ _)); exact BK682.out⟩, ⟨by repeat (first | (with_reducible first | exact HB.out | apply below_alloc | apply pw_below_drewN | apply below_drew1 | refine below_set ?_ GE682.out) | exact HB.out)⟩⟩
     case round =>
      clear H'
      try clear c1
      try clear p2
      try clear c3
      try clear c5
      try clear p6
      try clear q6
      try clear hx6
      try clear c8
      try clear c10
      try clear c10b0
      try clear c11
      try clear c11b0
      try clear hcz6_0
      try clear hcz6_1
      try clear hcz6_2
      try clear hfz6_0
      try clear hfz6_1
      try clear hfz6_2
      try clear hx689_0
      try clear p2
      try clear p689
      try clear q689
      obtain ⟨x9_2, rfl, HA, HK2, HO_5, HO_6, HO_8, BK682, HB⟩ := hrel
      cases gk with
      | zero => exact absurd HA.out (by simp [mortmainref08_Closed.l1])
      | succ k2 =>
       have H := HA.out
       clear HA
       simp only [mortmainref08_Closed.l1] at H
       by_cases c19 : x9_2 < (t693.length : Int)
       ·rw [if_pos c19] at H
        have c19b0 : decide (x9_2 < (t693.length : Int)) = true := decide_eq_true c19
        clear c19
        by_cases c20 : 0 ≤ x9_2
        ·rw [if_pos c20] at H
         have c20b0 : decide (0 ≤ x9_2) = true := decide_eq_true c20
         clear c20
         replace H := Option.bind_eq_some_iff.mp H
         obtain ⟨t697, A210, H⟩ := H
         replace H : (if t697 = true then (mortmainref08_Closed.l1 k2 l1 t683 t686 x7_1 t693 (wrap64 (x9_2 + 1)) l0_0 a0_1 a0_2) else (some false)) = some r := H
         have A21 := Aside0.mk A210
         clear A210
         by_cases c22 : t697 = true
         ·subst c22
          have H1 : (mortmainref08_Closed.l1 k2 l1 t683 t686 x7_1 t693 (wrap64 (x9_2 + 1)) l0_0 a0_1 a0_2) = some r := by rw [if_pos rfl] at H; exact H
          clear H
          have H := H1
          clear H1
          have H' := Aside0.mk H
          clear H
          obtain ⟨Ao23, co23, eo23⟩ := Kd.R_slice HO_8.out
          subst eo23
          have p696 : 0 ≤ (x9_2 : Int) := oT
          have q696 : x9_2 < (t693.length : Int) := oT
          obtain ⟨ad696, e696, hx696_0⟩ := Kd.at_int (Kd.R_reads' HO_8.out).2.2 x9_2 p696 q696
          cases e696
          replace p696 := eq_true p696
          replace q696 := eq_true q696
          go_wp2_with (first | ((with_reducible refine gate_callee (f := 85) rfl ?_); refine goesL_ (some 40) rfl rfl Try.func85 (by kernel_rfl) rfl #[.slice A1 l1.length c1, .int .i64 (rd t693 x9_2)] rfl mT ?_; (with_reducible refine (mortmainref08_Has.calls k2 _ _ l1 (rd t693 x9_2) true _ ?side1 ?side2 A21.out).mono ?_); (case side1 => repeat (first | exact (Kd.C_below HR1.out HB.out) | (with_reducible refine Kd.C_alloc ?_ _) | (with_reducible refine Kd.C_drewN ?_ _) | (with_reducible refine Kd.C_drew ?_))); (case side2 => exact HC1.out); rintro e w' ⟨rfl, ⟨nd, rfl⟩⟩; refine ⟨_, rfl, ?_⟩))
          go_roundg k2
          case measure => have := HK1.out; have := HK2.out; omega
          case rel => exact ⟨(wrap64 (x9_2 + 1)), (by first | rfl | (simp; done) | (simp [*]; done)), H', ⟨by have := HK1.out; have := HK2.out; omega⟩, ⟨by (with_reducible repeat (first | apply Kd.R_alloc | apply Kd.R_drewN | apply Kd.R_drew)); exact HO_5.out⟩, ⟨by (with_reducible repeat (first | apply Kd.R_alloc | apply Kd.R_drewN | apply Kd.R_drew)); exact HO_6.out⟩, ⟨by (with_reducible repeat (first | apply Kd.R_alloc | apply Kd.R_drewN | apply Kd.R_drew)); exact HO_8.out⟩, ⟨by (with_reducible repeat (first | refine blk_drewN ?_ _ | refine blk_drew ?_ | refine blk_alloc ?_ _)); exact BK682.out⟩, ⟨by repeat (first | (with_reducible first | exact HB.out | apply below_alloc | apply pw_below_drewN | apply below_drew1 | refine below_set ?_ GE682.out) | exact HB.out)⟩⟩
         ·replace c22 := Bool.eq_false_iff.mpr c22
          subst c22
          have H1 : (some false) = some r := by rw [if_neg (show ¬ (false = true) by decide)] at H; exact H
          clear H
          have H := H1
          clear H1
          obtain rfl := Option.some.inj H
          obtain ⟨Ao24, co24, eo24⟩ := Kd.R_slice HO_8.out
          subst eo24
          have p696 : 0 ≤ (x9_2 : Int) := oT
          have q696 : x9_2 < (t693.length : Int) := oT
          obtain ⟨ad696, e696, hx696_0⟩ := Kd.at_int (Kd.R_reads' HO_8.out).2.2 x9_2 p696 q696
          cases e696
          replace p696 := eq_true p696
          replace q696 := eq_true q696
          go_wp2_with (first | ((with_reducible refine gate_callee (f := 85) rfl ?_); refine goesL_ (some 40) rfl rfl Try.func85 (by kernel_rfl) rfl #[.slice A1 l1.length c1, .int .i64 (rd t693 x9_2)] rfl mT ?_; (with_reducible refine (mortmainref08_Has.calls k2 _ _ l1 (rd t693 x9_2) false _ ?side1 ?side2 A21.out).mono ?_); (case side1 => repeat (first | exact (Kd.C_below HR1.out HB.out) | (with_reducible refine Kd.C_alloc ?_ _) | (with_reducible refine Kd.C_drewN ?_ _) | (with_reducible refine Kd.C_drew ?_))); (case side2 => exact HC1.out); rintro e w' ⟨rfl, ⟨nd, rfl⟩⟩; refine ⟨_, rfl, ?_⟩))
          go_ret
          exact ⟨by first | rfl | (simp [errW_none, errW_some] <;> rfl) | (simp [*, errW_none, errW_some] <;> rfl), by repeat (first | (with_reducible first | exact HB.out | apply below_alloc | apply pw_below_drewN | apply below_drew1 | refine below_set ?_ GE682.out) | exact HB.out)⟩
        ·rw [if_neg c20] at H
         exact absurd H (by simp)
       ·rw [if_neg c19] at H
        have c19b0 : decide (x9_2 < (t693.length : Int)) = false := decide_eq_false c19
        clear c19
        have H' := Aside0.mk H
        clear H
        obtain ⟨Ao25, co25, eo25⟩ := Kd.R_slice HO_8.out
        subst eo25
        go_wp2
        go_roundg k2
        case measure => have := HK1.out; have := HK2.out; omega
        case rel => exact ⟨(wrap64 (x7_1 + 1)), (by first | rfl | (simp; done) | (simp [*]; done)), H', ⟨by have := HK1.out; have := HK2.out; omega⟩, ⟨by (with_reducible repeat (first | apply Kd.R_alloc | apply Kd.R_drewN | apply Kd.R_drew)); exact Kd.R_mono HO_5.out (fun _ hk => hk.1)⟩, ⟨by (with_reducible repeat (first | apply Kd.R_alloc | apply Kd.R_drewN | apply Kd.R_drew)); exact Kd.R_mono HO_6.out (fun _ hk => hk.1)⟩, ⟨by (with_reducible repeat (first | refine blk_drewN ?_ _ | refine blk_drew ?_ | refine blk_alloc ?_ _)); exact BK682.out⟩, ⟨by repeat (first | (with_reducible first | exact HB.out | apply below_alloc | apply pw_below_drewN | apply below_drew1 | refine below_set ?_ GE682.out) | exact HB.out)⟩⟩
    ·rw [if_neg c11] at H
     exact absurd H (by simp)
   ·rw [if_neg c10] at H
    have c10b0 : decide (x7_1 < (t686.length : Int)) = false := decide_eq_false c10
    clear c10
    obtain rfl := Option.some.inj H
    obtain ⟨Ao26, co26, eo26⟩ := Kd.R_slice HO_6.out
    subst eo26
    go_wp2
    go_ret
    exact ⟨by first | rfl | (simp [errW_none, errW_some] <;> rfl) | (simp [*, errW_none, errW_some] <;> rfl), by repeat (first | (with_reducible first | exact HB.out | apply below_alloc | apply pw_below_drewN | apply below_drew1 | refine below_set ?_ GE682.out) | exact HB.out)⟩
end Go.Proofs.Ytkmjboeabmmecaa.MAll
