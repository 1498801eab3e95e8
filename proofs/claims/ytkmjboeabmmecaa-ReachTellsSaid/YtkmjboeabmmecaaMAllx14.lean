/- The functions that the law reaches in plain Lean, and that the calls come to what these say. No condition. (By wip/myprint.py, this session's program over the kit's print.) -/
import Derived.Test.YtkmjboeabmmecaaMAllx13
namespace Go.Proofs.Ytkmjboeabmmecaa.MAll
open Go.RowKit Go.Proofs.YtkmjboeabmmecaaW.PrintWords Go.Proofs.YtkmjboeabmmecaaW.PrintLast Go.Proofs.YtkmjboeabmmecaaW.PrintMore
attribute [local go_sem] max2_int min2_int max_two min_two max_three min_three max_four min_four
set_option linter.unusedVariables false
set_option linter.unusedSimpArgs false
def mortmainref06_Live.l0 : Nat → List Int → Int → List (S84) → Int → Int → Option (List Int)
 | 0, _, _, _, _, _ => none
 | k + 1, x3, x4, x454000, x454001, x454002 => if x4 < (x454000.length : Int) then (if 0 ≤ x4 then (if ((rd_T84 x454000 x4).f0) = 1 then ((mortmainref01_Pack.f x4 ((rd_T84 x454000 x4).f1)).bind fun t459 => (if x3.length < 17592186044416 then (mortmainref06_Live.l0 k (x3 ++ [t459]) (wrap64 (x4 + 1)) x454000 x454001 x454002) else (none))) else (mortmainref06_Live.l0 k x3 (wrap64 (x4 + 1)) x454000 x454001 x454002)) else (none)) else ((mortmainref06_Sorted.f k x454000 x454001 x454002 x3).bind fun t463 => (some t463))
def mortmainref06_Live.f (k : Nat) (l0_0 : List (S84)) (a0_1 : Int) (a0_2 : Int) : Option (List Int) := mortmainref06_Live.l0 k (([] : List Int)) 0 l0_0 a0_1 a0_2
theorem mortmainref06_Live.mono_l : ∀ k, (∀ y0 y1 y2 y3 y4, LeO (mortmainref06_Live.l0 k y0 y1 y2 y3 y4) (mortmainref06_Live.l0 (k + 1) y0 y1 y2 y3 y4))
 | 0 => fun _ _ _ _ _ r h => by simp [mortmainref06_Live.l0] at h
 | k + 1 => by
  have ih0 := mortmainref06_Live.mono_l k
  ·intro y0 y1 y2 y3 y4
   unfold mortmainref06_Live.l0
   repeat' first
   | (with_reducible exact ih0 _ _ _ _ _)
   | (with_reducible exact mortmainref06_Sorted.mono _ _ _ _ _)
   | (with_reducible exact LeO.refl _)
   | (with_reducible exact LeO.none _)
   | (with_reducible refine LeO.ite ?_ ?_)
   | (with_reducible refine LeO.bind ?_ (fun _ => ?_))
   | exact ih0 _ _ _ _ _
   | exact mortmainref06_Sorted.mono _ _ _ _ _
   | exact LeO.none _
   | refine LeO.ite ?_ ?_
   | refine LeO.bind ?_ (fun _ => ?_)
theorem mortmainref06_Live.mono : ∀ a0 a1 a2 k, LeO (mortmainref06_Live.f k a0 a1 a2) (mortmainref06_Live.f (k + 1) a0 a1 a2) := by
 intro a0 a1 a2 k
 have ih0 := mortmainref06_Live.mono_l k
 unfold mortmainref06_Live.f
 repeat' first
   | (with_reducible exact ih0 _ _ _ _ _)
   | (with_reducible exact mortmainref06_Sorted.mono _ _ _ _ _)
   | (with_reducible exact LeO.refl _)
   | (with_reducible exact LeO.none _)
   | (with_reducible refine LeO.ite ?_ ?_)
   | (with_reducible refine LeO.bind ?_ (fun _ => ?_))
   | exact ih0 _ _ _ _ _
   | exact mortmainref06_Sorted.mono _ _ _ _ _
   | exact LeO.none _
   | refine LeO.ite ?_ ?_
   | refine LeO.bind ?_ (fun _ => ?_)
set_option maxHeartbeats 8000000 in
set_option maxRecDepth 100000 in
theorem mortmainref06_Live.calls (k : Nat) (A0_0 : Option Addr) (c0_0 : Nat) (l0_0 : List (S84)) (a0_1 : Int) (a0_2 : Int) (r : List Int) (w : World) (hr0_0 : Kd.C k84 w A0_0 l0_0.length l0_0) (hc0_0 : l0_0.length ≤ c0_0) (h : mortmainref06_Live.f k l0_0 a0_1 a0_2 = some r) :
  Calls Try.prog 34 #[.agg #[.slice A0_0 l0_0.length c0_0, .int .i64 a0_1, .int .i64 a0_2]] w fun e w' => ∃ v0_ : Value, e = .returned (v0_) ∧ Kd.R (Kd.int .i64) 3 w' w.heap.size (fun _ => True) v0_ r ∧ Below w.heap.size w w' := by
 have hu37 := Try.underlying37
 have HR0_0 := Aside0.mk hr0_0
 have HC0_0 := Aside0.mk hc0_0
 clear hr0_0 hc0_0
 have HB := Aside0.mk (Below.refl w.heap.size w)
 have H : (mortmainref06_Live.l0 k (([] : List Int)) 0 l0_0 a0_1 a0_2) = some r := h
 clear h
 obtain ⟨y454, hy454⟩ : ∃ y_ : List Int, y_ = (([] : List Int)) := ⟨_, rfl⟩
 replace H : (mortmainref06_Live.l0 k y454 0 l0_0 a0_1 a0_2) = some r := by first | (rw [hy454]; with_reducible exact H) | (have H2_ := (Option.bind_some _ _).symm.trans H; rw [hy454]; with_reducible exact H2_) | (have H2_ := (Option.bind_some _ _).symm.trans H; with_reducible exact H2_) | with_reducible exact H | (rw [hy454]; exact H) | exact H
 have Ny454 := Aside0.mk hy454
 clear hy454
 have H' := Aside0.mk H
 clear H
 go_enter Try.func34, Try.ntmps34
 go_wp2_with (first | ((with_reducible refine gate_dst (N := 1) rfl ?_); refine box_event ?hg (N := 1) ?hd (cs := #[.slice A0_0 l0_0.length c0_0, .int .i64 a0_1, .int .i64 a0_2]) (t := 37) ?hr ?_; (case hd => rfl); (case hg => rfl); (case hr => first | (go_simp; done) | (go_simp; rfl)); intro gb453 hg w2 hbox hb; have n0_ := Aside0.mk (below_step bT hb); have n1_ := Aside0.mk (hbox); have n2_ := Aside0.mk (gT hg bT); have n3_ := Aside0.mk (gT hg bT); clear HB; have HB := n0_; have BK453 := n1_; have GW453 := n2_; have GE453 := n3_; clear n0_ n1_ n2_ n3_; clear hb hbox hg) | ((with_reducible refine gate_dst (N := 5) rfl ?_); refine Kd.R_lit (Kd.int .i64) _ 3 ?hg (N := 5) ?hd (xs := ([] : List Int)) (inner := []) (ok := fun _ => True) (okp := fun _ => True) ?hr ?hp (fun _ hk => hk) trivial (Below.refl _ _) (Nat.le_refl _) (by simp) ?_; (case hd => rfl); (case hg => rfl); (case hr => first | (go_simp; done) | (go_simp; rfl)); (case hp => exact (Reps.none _ _)); intro v455 w3 ho4 hb hg_ hnew_; clear hg_ hnew_; (first | rw [← Ny454.out] at ho4 | (simp only [Int.reduceToNat] at ho4; rw [← Ny454.out] at ho4)); have n0_ := Aside0.mk (Kd.R_lower ho4 (below_size (bG GE453.out))); have n1_ := Aside0.mk (blk_below (g := gb453) (o := .cells #[.slice A0_0 l0_0.length c0_0, .int .i64 a0_1, .int .i64 a0_2] 37 (0, 0)) (kT BK453.out) hb); have n2_ := Aside0.mk (below_step (bG GE453.out) hb); clear BK453; clear HB; have HO456 := n0_; have BK453 := n1_; have HB := n2_; clear n0_ n1_ n2_; clear hb ho4))
 go_loopg [3, 4] k (fun kq v3 v4 w' => ∃ (x3_1 : List Int) (x4_1 : Int), v4 = .int .i64 x4_1 ∧ Aside0 (mortmainref06_Live.l0 kq x3_1 x4_1 l0_0 a0_1 a0_2 = some r) ∧ Aside0 (kq ≤ k) ∧ Aside0 (Kd.R (Kd.int .i64) 3 w' w.heap.size (fun _ => True) v3 x3_1) ∧ Aside0 (w'.heap[gb453]? = some (.cells #[(.slice A0_0 l0_0.length c0_0), .int .i64 a0_1, .int .i64 a0_2] 37 (0, 0))) ∧ Aside0 (Below w.heap.size w w'))
 case atStart => exact ⟨(y454), (0), (by first | rfl | (simp; done) | (simp [*]; done)), H', ⟨Nat.le_refl _⟩, ⟨by (with_reducible repeat (first | apply Kd.R_alloc | apply Kd.R_drewN | apply Kd.R_drew)); exact HO456.out⟩, ⟨by (with_reducible repeat (first | refine blk_drewN ?_ _ | refine blk_drew ?_ | refine blk_alloc ?_ _)); exact BK453.out⟩, ⟨by repeat (first | (with_reducible first | exact HB.out | apply below_alloc | apply pw_below_drewN | apply below_drew1 | refine below_set ?_ GE453.out) | exact HB.out)⟩⟩
 case round =>
  clear H'
  try clear p2
  try clear c3
  obtain ⟨x3_1, x4_1, rfl, HA, HK1, HO_3, BK453, HB⟩ := hrel
  cases gk with
  | zero => exact absurd HA.out (by simp [mortmainref06_Live.l0])
  | succ k1 =>
   have H := HA.out
   clear HA
   simp only [mortmainref06_Live.l0] at H
   by_cases c5 : x4_1 < (l0_0.length : Int)
   ·rw [if_pos c5] at H
    have c5b0 : decide (x4_1 < (l0_0.length : Int)) = true := decide_eq_true c5
    clear c5
    by_cases c6 : 0 ≤ x4_1
    ·rw [if_pos c6] at H
     have c6b0 : decide (0 ≤ x4_1) = true := decide_eq_true c6
     clear c6
     by_cases c7 : ((rd_T84 l0_0 x4_1).f0) = 1
     ·rw [if_pos c7] at H
      have c7b0 : (((rd_T84 l0_0 x4_1).f0) == 1) = true := beq_iff_eq.mpr c7
      have c7b1 : (((rd_T84 l0_0 x4_1).f0) != 1) = false := bne_eq_false_iff_eq.mpr c7
      clear c7
      replace H := Option.bind_eq_some_iff.mp H
      obtain ⟨t459, A80, H⟩ := H
      replace H : (if x3_1.length < 17592186044416 then (mortmainref06_Live.l0 k1 (x3_1 ++ [t459]) (wrap64 (x4_1 + 1)) l0_0 a0_1 a0_2) else (none)) = some r := H
      have A8 := Aside0.mk A80
      clear A80
      by_cases c9 : x3_1.length < 17592186044416
      ·rw [if_pos c9] at H
       have LMc9 := Aside0.mk c9
       clear c9
       obtain ⟨y460, hy460⟩ : ∃ y_ : List Int, y_ = (x3_1 ++ [t459]) := ⟨_, rfl⟩
       replace H : (mortmainref06_Live.l0 k1 y460 (wrap64 (x4_1 + 1)) l0_0 a0_1 a0_2) = some r := by first | (rw [hy460]; with_reducible exact H) | (have H2_ := (Option.bind_some _ _).symm.trans H; rw [hy460]; with_reducible exact H2_) | (have H2_ := (Option.bind_some _ _).symm.trans H; with_reducible exact H2_) | with_reducible exact H | (rw [hy460]; exact H) | exact H
       have Ny460 := Aside0.mk hy460
       clear hy460
       have H' := Aside0.mk H
       clear H
       have hcz10_0 : wr.cell? ⟨gb453, 0, none⟩ = some (.slice A0_0 l0_0.length c0_0) := (blk_cell BK453.out 0).trans rfl
       have hcz10_1 : wr.cell? ⟨gb453, 1, none⟩ = some (.int .i64 a0_1) := (blk_cell BK453.out 1).trans rfl
       have hcz10_2 : wr.cell? ⟨gb453, 2, none⟩ = some (.int .i64 a0_2) := (blk_cell BK453.out 2).trans rfl
       have hfz10_0 := blk_frozen BK453.out 0
       have hfz10_1 := blk_frozen BK453.out 1
       have hfz10_2 := blk_frozen BK453.out 2
       have p457 : 0 ≤ (x4_1 : Int) := oT
       have q457 : x4_1 < (l0_0.length : Int) := oT
       obtain ⟨ad457, A457_7, c457_7, e457, hx457_0, hx457_1, hx457_2, hx457_3, hx457_4, hx457_5, hx457_6, hx457_7, hl457_7, hi457_7⟩ := at_T84 HR0_0.out x4_1 p457 q457
       cases e457
       replace hx457_0 := cT HB.out hx457_0
       replace hx457_1 := cT HB.out hx457_1
       replace hx457_2 := cT HB.out hx457_2
       replace hx457_3 := cT HB.out hx457_3
       replace hx457_4 := cT HB.out hx457_4
       replace hx457_5 := cT HB.out hx457_5
       replace hx457_6 := cT HB.out hx457_6
       replace hx457_7 := cT HB.out hx457_7
       have HR457_7 := Aside0.mk hi457_7
       have HC457_7 := Aside0.mk hl457_7
       clear hi457_7 hl457_7
       replace p457 := eq_true p457
       replace q457 := eq_true q457
       have p458 : 0 ≤ (x4_1 : Int) := oT
       have q458 : x4_1 < (l0_0.length : Int) := oT
       obtain ⟨ad458, A458_7, c458_7, e458, hx458_0, hx458_1, hx458_2, hx458_3, hx458_4, hx458_5, hx458_6, hx458_7, hl458_7, hi458_7⟩ := at_T84 HR0_0.out x4_1 p458 q458
       obtain rfl : ad457 = ad458 := (by injection e458)
       replace hx458_0 := cT HB.out hx458_0
       replace hx458_1 := cT HB.out hx458_1
       replace hx458_2 := cT HB.out hx458_2
       replace hx458_3 := cT HB.out hx458_3
       replace hx458_4 := cT HB.out hx458_4
       replace hx458_5 := cT HB.out hx458_5
       replace hx458_6 := cT HB.out hx458_6
       replace hx458_7 := cT HB.out hx458_7
       have HR458_7 := Aside0.mk hi458_7
       have HC458_7 := Aside0.mk hl458_7
       clear hi458_7 hl458_7
       replace p458 := eq_true p458
       replace q458 := eq_true q458
       have ea_ := Option.some.inj (hx457_7.symm.trans hx458_7)
       injection ea_ with ea_ en_ ec_
       subst ea_
       subst ec_
       clear en_
       go_wp2_with (first | ((with_reducible refine gate_callee (f := 73) rfl ?_); refine goesL_ (some 28) rfl rfl Try.func73 (by kernel_rfl) rfl #[.int .i64 x4_1, .int .i64 ((rd_T84 l0_0 x4_1).f1)] rfl mT ?_; (with_reducible refine (mortmainref01_Pack.calls x4_1 ((rd_T84 l0_0 x4_1).f1) t459 _ A8.out).mono ?_); rintro e w' ⟨rfl, ⟨nd, rfl⟩⟩; refine ⟨_, rfl, ?_⟩) | ((with_reducible refine gate_builtin (b := .append) (xs := #[.tmp 20, .tmp 29]) rfl ?_); at_builtin; refine Kd.R_append (Kd.int .i64) (w0 := w) w.heap.size rfl (.tmp 20) (.tmp 29) 27 3 (.int .i64 0) 8 rfl Try.underlying27 info3 rfl (by decide) (by omega) u3 x3_1 t459 [.int .i64 t459] (fun _ => True) (fun _ => False) rfl rfl ?aP (fun _ hk => hk.elim) ?aF ?aO ?aB ?aS ?aL ?_; (case aP => exact rfl); (case aB => exact (bG GE453.out)); (case aF => exact (fun _ _ => trivial)); (case aO => exact (rT HO_3.out)); (case aS => exact (below_size (bG GE453.out))); (case aL => have := LMc9.out; omega); intro v461 w11 ho hb hg hat; rw [← Ny460.out] at ho; have n0_ := Aside0.mk (blk_grown (g := gb453) (o := .cells #[.slice (some ad457) l0_0.length c0_0, .int .i64 a0_1, .int .i64 a0_2] 37 (0, 0)) (kT BK453.out) hg (Kd.R_ne HO_3.out BK453.out (by decide))); have n1_ := Aside0.mk (hb); have n2_ := Aside0.mk (ho); clear BK453; clear HB; clear HO_3; have BK453 := n0_; have HB := n1_; have HO462 := n2_; clear n0_ n1_ n2_; clear ho hb hg hat))
       go_roundg k1
       case measure => have := HK1.out; omega
       case rel => exact ⟨(y460), (wrap64 (x4_1 + 1)), (by first | rfl | (simp; done) | (simp [*]; done)), H', ⟨by have := HK1.out; omega⟩, ⟨by (with_reducible repeat (first | apply Kd.R_alloc | apply Kd.R_drewN | apply Kd.R_drew)); exact HO462.out⟩, ⟨by (with_reducible repeat (first | refine blk_drewN ?_ _ | refine blk_drew ?_ | refine blk_alloc ?_ _)); exact BK453.out⟩, ⟨by repeat (first | (with_reducible first | exact HB.out | apply below_alloc | apply pw_below_drewN | apply below_drew1 | refine below_set ?_ GE453.out) | exact HB.out)⟩⟩
      ·rw [if_neg c9] at H
       exact absurd H (by simp)
     ·rw [if_neg c7] at H
      have c7b0 : (((rd_T84 l0_0 x4_1).f0) == 1) = false := beq_eq_false_iff_ne.mpr c7
      have c7b1 : (((rd_T84 l0_0 x4_1).f0) != 1) = true := bne_iff_ne.mpr c7
      have H' := Aside0.mk H
      clear H
      have hcz12_0 : wr.cell? ⟨gb453, 0, none⟩ = some (.slice A0_0 l0_0.length c0_0) := (blk_cell BK453.out 0).trans rfl
      have hcz12_1 : wr.cell? ⟨gb453, 1, none⟩ = some (.int .i64 a0_1) := (blk_cell BK453.out 1).trans rfl
      have hcz12_2 : wr.cell? ⟨gb453, 2, none⟩ = some (.int .i64 a0_2) := (blk_cell BK453.out 2).trans rfl
      have hfz12_0 := blk_frozen BK453.out 0
      have hfz12_1 := blk_frozen BK453.out 1
      have hfz12_2 := blk_frozen BK453.out 2
      have p457 : 0 ≤ (x4_1 : Int) := oT
      have q457 : x4_1 < (l0_0.length : Int) := oT
      obtain ⟨ad457, A457_7, c457_7, e457, hx457_0, hx457_1, hx457_2, hx457_3, hx457_4, hx457_5, hx457_6, hx457_7, hl457_7, hi457_7⟩ := at_T84 HR0_0.out x4_1 p457 q457
      cases e457
      replace hx457_0 := cT HB.out hx457_0
      replace hx457_1 := cT HB.out hx457_1
      replace hx457_2 := cT HB.out hx457_2
      replace hx457_3 := cT HB.out hx457_3
      replace hx457_4 := cT HB.out hx457_4
      replace hx457_5 := cT HB.out hx457_5
      replace hx457_6 := cT HB.out hx457_6
      replace hx457_7 := cT HB.out hx457_7
      have HR457_7 := Aside0.mk hi457_7
      have HC457_7 := Aside0.mk hl457_7
      clear hi457_7 hl457_7
      replace p457 := eq_true p457
      replace q457 := eq_true q457
      go_wp2
      go_roundg k1
      case measure => have := HK1.out; omega
      case rel => exact ⟨(x3_1), (wrap64 (x4_1 + 1)), (by first | rfl | (simp; done) | (simp [*]; done)), H', ⟨by have := HK1.out; omega⟩, ⟨by (with_reducible repeat (first | apply Kd.R_alloc | apply Kd.R_drewN | apply Kd.R_drew)); exact HO_3.out⟩, ⟨by (with_reducible repeat (first | refine blk_drewN ?_ _ | refine blk_drew ?_ | refine blk_alloc ?_ _)); exact BK453.out⟩, ⟨by repeat (first | (with_reducible first | exact HB.out | apply below_alloc | apply pw_below_drewN | apply below_drew1 | refine below_set ?_ GE453.out) | exact HB.out)⟩⟩
    ·rw [if_neg c6] at H
     exact absurd H (by simp)
   ·rw [if_neg c5] at H
    have c5b0 : decide (x4_1 < (l0_0.length : Int)) = false := decide_eq_false c5
    clear c5
    replace H := Option.bind_eq_some_iff.mp H
    obtain ⟨t463, A130, H⟩ := H
    replace H : (some t463) = some r := H
    have A13 := Aside0.mk A130
    clear A130
    obtain rfl := Option.some.inj H
    have hcz14_0 : wr.cell? ⟨gb453, 0, none⟩ = some (.slice A0_0 l0_0.length c0_0) := (blk_cell BK453.out 0).trans rfl
    have hcz14_1 : wr.cell? ⟨gb453, 1, none⟩ = some (.int .i64 a0_1) := (blk_cell BK453.out 1).trans rfl
    have hcz14_2 : wr.cell? ⟨gb453, 2, none⟩ = some (.int .i64 a0_2) := (blk_cell BK453.out 2).trans rfl
    have hfz14_0 := blk_frozen BK453.out 0
    have hfz14_1 := blk_frozen BK453.out 1
    have hfz14_2 := blk_frozen BK453.out 2
    obtain ⟨Ao15, co15, eo15⟩ := Kd.R_slice HO_3.out
    subst eo15
    go_wp2_with (first | ((with_reducible refine gate_callee (f := 74) rfl ?_); refine goesL_ (some 33) rfl rfl Try.func74 (by kernel_rfl) rfl #[.agg #[.slice A0_0 l0_0.length c0_0, .int .i64 a0_1, .int .i64 a0_2], .slice Ao15 x3_1.length co15] rfl mT ?_; (with_reducible refine (mortmainref06_Sorted.calls k1 _ _ l0_0 a0_1 a0_2 _ _ x3_1 t463 _ ?side1 ?side2 ?side3 ?side4 A13.out).mono ?_); (case side1 => repeat (first | exact (Kd.C_below HR0_0.out HB.out) | (with_reducible refine Kd.C_alloc ?_ _) | (with_reducible refine Kd.C_drewN ?_ _) | (with_reducible refine Kd.C_drew ?_))); (case side2 => exact HC0_0.out); (case side3 => repeat (first | exact (Kd.R_reads' HO_3.out).2.2 | (with_reducible refine Kd.C_alloc ?_ _) | (with_reducible refine Kd.C_drewN ?_ _) | (with_reducible refine Kd.C_drew ?_))); (case side4 => exact (Kd.R_reads' HO_3.out).2.1); rintro e w16 ⟨v464, rfl, ho0, hb⟩; refine ⟨_, rfl, ?_⟩; have n0_ := Aside0.mk (Kd.R_elder' (rT HO_3.out) (Kd.R_base ho0) hb); have n1_ := Aside0.mk (Kd.R_lower (Kd.R_new' ho0 (Kd.R_lt (rT HO_3.out))) (below_size (bG GE453.out))); have n2_ := Aside0.mk (blk_below (g := gb453) (o := .cells #[.slice A0_0 l0_0.length c0_0, .int .i64 a0_1, .int .i64 a0_2] 37 (0, 0)) (kT BK453.out) hb); have n3_ := Aside0.mk (below_step (bG GE453.out) hb); clear HO_3; clear BK453; clear HB; have HO_3 := n0_; have HO465 := n1_; have BK453 := n2_; have HB := n3_; clear n0_ n1_ n2_ n3_; (try clear hb); (try clear hb2); (try clear hk); (try clear hi); (try clear ho0)))
    go_ret
    exact ⟨_, by first | rfl | (simp [errW_none, errW_some] <;> rfl) | (simp [*, errW_none, errW_some] <;> rfl), by (with_reducible repeat (first | apply Kd.R_alloc | apply Kd.R_drewN | apply Kd.R_drew)); exact Kd.R_mono HO465.out (fun _ hk => trivial), by repeat (first | (with_reducible first | exact HB.out | apply below_alloc | apply pw_below_drewN | apply below_drew1 | refine below_set ?_ GE453.out) | exact HB.out)⟩
def mortmainlaw08_obj.f (a0_0 : Int) (a0_1 : Int) (a0_2 : Int) (a0_3 : Int) (a0_4 : Bool) (l0_5 : List Int) : Option (Int × Int × Int × Int × Bool × List Int) := some (a0_0, a0_1, a0_2, a0_3, a0_4, l0_5)
set_option maxHeartbeats 8000000 in
set_option maxRecDepth 100000 in
theorem mortmainlaw08_obj.calls (a0_0 : Int) (a0_1 : Int) (a0_2 : Int) (a0_3 : Int) (a0_4 : Bool) (P0_5_ : Nat → Prop) (A0_5 : Option Addr) (c0_5 : Nat) (l0_5 : List Int) (r1 : Int) (r2 : Int) (r3 : Int) (r4 : Int) (r5 : Bool) (r6 : List Int) (w : World) (hs0_5 : Kd.V (Kd.int .i64) 3 w w.heap.size (fun k_ => P0_5_ k_) (.slice A0_5 l0_5.length c0_5) l0_5) (h : mortmainlaw08_obj.f a0_0 a0_1 a0_2 a0_3 a0_4 l0_5 = some (r1, r2, r3, r4, r5, r6)) :
  Calls Try.prog 80 #[.agg #[.int .i64 a0_0, .int .i64 a0_1, .int .i64 a0_2, .int .i64 a0_3, .bool a0_4, .slice A0_5 l0_5.length c0_5]] w fun e w' => ∃ v5_ : Value, e = .returned (.agg #[.int .i64 r1, .int .i64 r2, .int .i64 r3, .int .i64 r4, .bool r5, v5_]) ∧ Kd.V (Kd.int .i64) 3 w' w.heap.size (fun k_ => (P0_5_ k_ ∨ w.heap.size ≤ k_)) v5_ r6 ∧ Below w.heap.size w w' := by
 have hu29 := Try.underlying29
 have hu41 := Try.underlying41
 have HO0_5 := Aside0.mk (show Kd.V (Kd.int .i64) 3 w w.heap.size (fun k_ => (P0_5_ k_ ∨ w.heap.size ≤ k_)) (.slice A0_5 l0_5.length c0_5) l0_5 from Kd.V_mono hs0_5 (fun k_ hk => .inl hk))
 have HB := Aside0.mk (Below.refl w.heap.size w)
 have H : (some (a0_0, a0_1, a0_2, a0_3, a0_4, l0_5)) = some (r1, r2, r3, r4, r5, r6) := h
 clear h
 simp only [Option.some.injEq, Prod.mk.injEq] at H
 obtain ⟨rfl, rfl, rfl, rfl, rfl, rfl⟩ := H
 go_enter Try.func80, Try.ntmps80
 go_wp2_with (first | ((with_reducible refine gate_dst (N := 1) rfl ?_); refine box_event ?hg (N := 1) ?hd (cs := #[.int .i64 a0_0, .int .i64 a0_1, .int .i64 a0_2, .int .i64 a0_3, .bool a0_4, .slice A0_5 l0_5.length c0_5]) (t := 29) ?hr ?_; (case hd => rfl); (case hg => rfl); (case hr => first | (go_simp; done) | (go_simp; rfl)); intro gb520 hg w2 hbox hb; have n0_ := Aside0.mk (Kd.V_below (Kd.V_elderB (by (with_reducible repeat (first | apply Kd.V_alloc | apply Kd.V_drewN | apply Kd.V_drew)); exact HO0_5.out) gb520 (Nat.le_of_eq hg.symm)) hb); have n1_ := Aside0.mk (below_step bT hb); have n2_ := Aside0.mk (hbox); have n3_ := Aside0.mk (gT hg bT); have n4_ := Aside0.mk (gT hg bT); clear HO0_5; clear HB; have HO0_5 := n0_; have HB := n1_; have BK520 := n2_; have GW520 := n3_; have GE520 := n4_; clear n0_ n1_ n2_ n3_ n4_; clear hb hbox hg) | ((with_reducible refine gate_dst (N := 2) rfl ?_); refine box_event ?hg (N := 2) ?hd (cs := #[.int .i64 0, .int .i64 0, .int .i64 0, .int .i64 0, .bool false, .slice none 0 0]) (t := 41) ?hr ?_; (case hd => rfl); (case hg => rfl); (case hr => first | (go_simp; done) | (go_simp; rfl)); intro gb521 hg w3 hbox hb; have n0_ := Aside0.mk (Kd.V_below (Kd.V_elderB (by (with_reducible repeat (first | apply Kd.V_alloc | apply Kd.V_drewN | apply Kd.V_drew)); exact HO0_5.out) gb521 (Nat.le_of_eq hg.symm)) hb); have n1_ := Aside0.mk (blk_below (g := gb520) (o := .cells #[.int .i64 a0_0, .int .i64 a0_1, .int .i64 a0_2, .int .i64 a0_3, .bool a0_4, .slice A0_5 l0_5.length c0_5] 29 (0, 0)) (kT BK520.out) hb); have n2_ := Aside0.mk (below_step (bG GE520.out) hb); have n3_ := Aside0.mk (hbox); have n4_ := Aside0.mk (gT hg (bG GE520.out)); have n5_ := Aside0.mk (gT hg (bG GE520.out)); have n6_ := Aside0.mk ((by rw [hg]; exact Nat.ne_of_lt (blk_lt (g := gb520) (o := .cells #[.int .i64 a0_0, .int .i64 a0_1, .int .i64 a0_2, .int .i64 a0_3, .bool a0_4, .slice A0_5 l0_5.length c0_5] 29 (0, 0)) (kT BK520.out)) : gb520 ≠ gb521)); have n7_ := Aside0.mk ((by rw [hg]; exact Nat.ne_of_gt (blk_lt (g := gb520) (o := .cells #[.int .i64 a0_0, .int .i64 a0_1, .int .i64 a0_2, .int .i64 a0_3, .bool a0_4, .slice A0_5 l0_5.length c0_5] 29 (0, 0)) (kT BK520.out)) : gb521 ≠ gb520)); clear HO0_5; clear BK520; clear HB; have HO0_5 := n0_; have BK520 := n1_; have HB := n2_; have BK521 := n3_; have GW521 := n4_; have GE521 := n5_; have NB520_521 := n6_; have NB521_520 := n7_; clear n0_ n1_ n2_ n3_ n4_ n5_ n6_ n7_; clear hb hbox hg; have hnb4 := NB520_521.out; have hnc4 := NB521_520.out; have hcz5_0 : w3.cell? ⟨gb520, 0, none⟩ = some (.int .i64 a0_0) := (blk_cell BK520.out 0).trans rfl; have hcz5_1 : w3.cell? ⟨gb520, 1, none⟩ = some (.int .i64 a0_1) := (blk_cell BK520.out 1).trans rfl; have hcz5_2 : w3.cell? ⟨gb520, 2, none⟩ = some (.int .i64 a0_2) := (blk_cell BK520.out 2).trans rfl; have hcz5_3 : w3.cell? ⟨gb520, 3, none⟩ = some (.int .i64 a0_3) := (blk_cell BK520.out 3).trans rfl; have hcz5_4 : w3.cell? ⟨gb520, 4, none⟩ = some (.bool a0_4) := (blk_cell BK520.out 4).trans rfl; have hcz5_5 : w3.cell? ⟨gb520, 5, none⟩ = some (.slice A0_5 l0_5.length c0_5) := (blk_cell BK520.out 5).trans rfl; have hfz5_0 := blk_frozen BK520.out 0; have hfz5_1 := blk_frozen BK520.out 1; have hfz5_2 := blk_frozen BK520.out 2; have hfz5_3 := blk_frozen BK520.out 3; have hfz5_4 := blk_frozen BK520.out 4; have hfz5_5 := blk_frozen BK520.out 5; have hcz6_0 : w3.cell? ⟨gb521, 0, none⟩ = some (.int .i64 0) := (blk_cell BK521.out 0).trans rfl; have hcz6_1 : w3.cell? ⟨gb521, 1, none⟩ = some (.int .i64 0) := (blk_cell BK521.out 1).trans rfl; have hcz6_2 : w3.cell? ⟨gb521, 2, none⟩ = some (.int .i64 0) := (blk_cell BK521.out 2).trans rfl; have hcz6_3 : w3.cell? ⟨gb521, 3, none⟩ = some (.int .i64 0) := (blk_cell BK521.out 3).trans rfl; have hcz6_4 : w3.cell? ⟨gb521, 4, none⟩ = some (.bool false) := (blk_cell BK521.out 4).trans rfl; have hcz6_5 : w3.cell? ⟨gb521, 5, none⟩ = some (.slice none 0 0) := (blk_cell BK521.out 5).trans rfl; have hfz6_0 := blk_frozen BK521.out 0; have hfz6_1 := blk_frozen BK521.out 1; have hfz6_2 := blk_frozen BK521.out 2; have hfz6_3 := blk_frozen BK521.out 3; have hfz6_4 := blk_frozen BK521.out 4; have hfz6_5 := blk_frozen BK521.out 5))
 refine bodyPost_ret (results_cell_row rfl _ _ gb521 41 #[.int .i64 a0_0, .int .i64 a0_1, .int .i64 a0_2, .int .i64 a0_3, .bool a0_4, .slice A0_5 l0_5.length c0_5] (0, 0) _ rfl (by (with_reducible repeat (first | refine blk_drewN ?_ _ | refine blk_drew ?_ | refine blk_alloc ?_ _)); refine blk_put (cs := #[.int .i64 a0_0, .int .i64 a0_1, .int .i64 a0_2, .int .i64 a0_3, .bool a0_4, .slice none 0 0]) ?_ 5 _ rfl; (with_reducible repeat (first | refine blk_drewN ?_ _ | refine blk_drew ?_ | refine blk_alloc ?_ _)); refine blk_put (cs := #[.int .i64 a0_0, .int .i64 a0_1, .int .i64 a0_2, .int .i64 a0_3, .bool false, .slice none 0 0]) ?_ 4 _ rfl; (with_reducible repeat (first | refine blk_drewN ?_ _ | refine blk_drew ?_ | refine blk_alloc ?_ _)); refine blk_put (cs := #[.int .i64 a0_0, .int .i64 a0_1, .int .i64 a0_2, .int .i64 0, .bool false, .slice none 0 0]) ?_ 3 _ rfl; (with_reducible repeat (first | refine blk_drewN ?_ _ | refine blk_drew ?_ | refine blk_alloc ?_ _)); refine blk_put (cs := #[.int .i64 a0_0, .int .i64 a0_1, .int .i64 0, .int .i64 0, .bool false, .slice none 0 0]) ?_ 2 _ rfl; (with_reducible repeat (first | refine blk_drewN ?_ _ | refine blk_drew ?_ | refine blk_alloc ?_ _)); refine blk_put (cs := #[.int .i64 a0_0, .int .i64 0, .int .i64 0, .int .i64 0, .bool false, .slice none 0 0]) ?_ 1 _ rfl; (with_reducible repeat (first | refine blk_drewN ?_ _ | refine blk_drew ?_ | refine blk_alloc ?_ _)); refine blk_put (cs := #[.int .i64 0, .int .i64 0, .int .i64 0, .int .i64 0, .bool false, .slice none 0 0]) ?_ 0 _ rfl; (with_reducible repeat (first | refine blk_drewN ?_ _ | refine blk_drew ?_ | refine blk_alloc ?_ _)); exact BK521.out) Try.underlying41 rfl (by kernel_rfl)) rfl ?_
 exact ⟨_, by first | rfl | (simp [errW_none, errW_some] <;> rfl) | (simp [*, errW_none, errW_some] <;> rfl), by (with_reducible repeat (first | apply Kd.V_alloc | apply Kd.V_drewN | apply Kd.V_drew)); exact Kd.V_mono (Kd.V_far (p := ⟨gb521, 5, none⟩) (Kd.V_far (p := ⟨gb521, 4, none⟩) (Kd.V_far (p := ⟨gb521, 3, none⟩) (Kd.V_far (p := ⟨gb521, 2, none⟩) (Kd.V_far (p := ⟨gb521, 1, none⟩) (Kd.V_far (p := ⟨gb521, 0, none⟩) (Kd.V_mono HO0_5.out (fun k_ hk => (⟨hk, hk.2⟩ : _ ∧ k_ ≠ gb521))) (fun _ hk => hk.2) (.int .i64 a0_0)) (fun _ hk => hk.2) (.int .i64 a0_1)) (fun _ hk => hk.2) (.int .i64 a0_2)) (fun _ hk => hk.2) (.int .i64 a0_3)) (fun _ hk => hk.2) (.bool a0_4)) (fun _ hk => hk.2) (.slice A0_5 l0_5.length c0_5)) (fun _ hk => hk.1.1.1), by repeat (first | (with_reducible first | exact HB.out | apply below_alloc | apply pw_below_drewN | apply below_drew1 | refine below_set ?_ GE520.out | refine below_set ?_ GE521.out) | exact HB.out)⟩
end Go.Proofs.Ytkmjboeabmmecaa.MAll
