/- The functions that the law reaches in plain Lean, and that the calls come to what these say. No condition. (By wip/myprint.py, this session's program over the kit's print.) -/
import Derived.Test.YtkmjboeabmmecaaMAllx19
import Derived.Test.YtkmjboeabmmecaaMAllx20
namespace Go.Proofs.Ytkmjboeabmmecaa.MAll
open Go.RowKit Go.Proofs.YtkmjboeabmmecaaW.PrintWords Go.Proofs.YtkmjboeabmmecaaW.PrintLast Go.Proofs.YtkmjboeabmmecaaW.PrintMore
attribute [local go_sem] max2_int min2_int max_two min_two max_three min_three max_four min_four
set_option linter.unusedVariables false
set_option linter.unusedSimpArgs false
mutual
def mortmainref08_From.l0 : Nat → List Int → List Int → Int → List (S84) → Int → Int → Option (List Int)
 | 0, _, _, _, _, _, _ => none
 | k + 1, x5, x6, x7, x625000, x625001, x625002 => if x7 < (x5.length : Int) then ((some (([] : List Int) : List Int)).bind fun y631 => (if y631.length + x6.length < 17592186044416 then (mortmainref08_From.l1 k x5 x6 x7 (y631 ++ x6) 0 x625000 x625001 x625002) else (none))) else (some x6)
def mortmainref08_From.l1 : Nat → List Int → List Int → Int → List Int → Int → List (S84) → Int → Int → Option (List Int)
 | 0, _, _, _, _, _, _, _, _ => none
 | k + 1, x5, x6, x7, x8, x9, x625000, x625001, x625002 => if x9 < (x6.length : Int) then (if 0 ≤ x9 then ((mortmainref07_Out.f k x625000 x625001 x625002 (rd x6 x9)).bind fun t638 => (if x8.length + t638.length < 17592186044416 then (mortmainref08_From.l1 k x5 x6 x7 (x8 ++ t638) (wrap64 (x9 + 1)) x625000 x625001 x625002) else (none))) else (none)) else ((mortmainref08_those.f k x5 x8 true).bind fun t644 => (mortmainref08_From.l0 k x5 t644 (wrap64 (x7 + 1)) x625000 x625001 x625002))
end
def mortmainref08_From.f (k : Nat) (l0_0 : List (S84)) (a0_1 : Int) (a0_2 : Int) (l1 : List Int) : Option (List Int) := (mortmainref06_Live.f k l0_0 a0_1 a0_2).bind fun t625 => ((mortmainref08_those.f k t625 l1 true).bind fun t628 => (mortmainref08_From.l0 k t625 t628 0 l0_0 a0_1 a0_2))
theorem mortmainref08_From.mono_l : ∀ k, (∀ y0 y1 y2 y3 y4 y5, LeO (mortmainref08_From.l0 k y0 y1 y2 y3 y4 y5) (mortmainref08_From.l0 (k + 1) y0 y1 y2 y3 y4 y5)) ∧ (∀ y0 y1 y2 y3 y4 y5 y6 y7, LeO (mortmainref08_From.l1 k y0 y1 y2 y3 y4 y5 y6 y7) (mortmainref08_From.l1 (k + 1) y0 y1 y2 y3 y4 y5 y6 y7))
 | 0 => ⟨fun _ _ _ _ _ _ r h => by simp [mortmainref08_From.l0] at h, fun _ _ _ _ _ _ _ _ r h => by simp [mortmainref08_From.l1] at h⟩
 | k + 1 => by
  obtain ⟨ih0, ih1⟩ := mortmainref08_From.mono_l k
  refine ⟨?_, ?_⟩
  ·intro y0 y1 y2 y3 y4 y5
   unfold mortmainref08_From.l0
   repeat' first
   | (with_reducible exact ih0 _ _ _ _ _ _)
   | (with_reducible exact ih1 _ _ _ _ _ _ _ _)
   | (with_reducible exact mortmainref06_Live.mono _ _ _ _)
   | (with_reducible exact mortmainref07_Out.mono _ _ _ _ _)
   | (with_reducible exact mortmainref08_those.mono _ _ _ _)
   | (with_reducible exact LeO.refl _)
   | (with_reducible exact LeO.none _)
   | (with_reducible refine LeO.ite ?_ ?_)
   | (with_reducible refine LeO.bind ?_ (fun _ => ?_))
   | exact ih0 _ _ _ _ _ _
   | exact ih1 _ _ _ _ _ _ _ _
   | exact mortmainref06_Live.mono _ _ _ _
   | exact mortmainref07_Out.mono _ _ _ _ _
   | exact mortmainref08_those.mono _ _ _ _
   | exact LeO.none _
   | refine LeO.ite ?_ ?_
   | refine LeO.bind ?_ (fun _ => ?_)
  ·intro y0 y1 y2 y3 y4 y5 y6 y7
   unfold mortmainref08_From.l1
   repeat' first
   | (with_reducible exact ih0 _ _ _ _ _ _)
   | (with_reducible exact ih1 _ _ _ _ _ _ _ _)
   | (with_reducible exact mortmainref06_Live.mono _ _ _ _)
   | (with_reducible exact mortmainref07_Out.mono _ _ _ _ _)
   | (with_reducible exact mortmainref08_those.mono _ _ _ _)
   | (with_reducible exact LeO.refl _)
   | (with_reducible exact LeO.none _)
   | (with_reducible refine LeO.ite ?_ ?_)
   | (with_reducible refine LeO.bind ?_ (fun _ => ?_))
   | exact ih0 _ _ _ _ _ _
   | exact ih1 _ _ _ _ _ _ _ _
   | exact mortmainref06_Live.mono _ _ _ _
   | exact mortmainref07_Out.mono _ _ _ _ _
   | exact mortmainref08_those.mono _ _ _ _
   | exact LeO.none _
   | refine LeO.ite ?_ ?_
   | refine LeO.bind ?_ (fun _ => ?_)
theorem mortmainref08_From.mono : ∀ a0 a1 a2 a3 k, LeO (mortmainref08_From.f k a0 a1 a2 a3) (mortmainref08_From.f (k + 1) a0 a1 a2 a3) := by
 intro a0 a1 a2 a3 k
 obtain ⟨ih0, ih1⟩ := mortmainref08_From.mono_l k
 unfold mortmainref08_From.f
 repeat' first
   | (with_reducible exact ih0 _ _ _ _ _ _)
   | (with_reducible exact ih1 _ _ _ _ _ _ _ _)
   | (with_reducible exact mortmainref06_Live.mono _ _ _ _)
   | (with_reducible exact mortmainref07_Out.mono _ _ _ _ _)
   | (with_reducible exact mortmainref08_those.mono _ _ _ _)
   | (with_reducible exact LeO.refl _)
   | (with_reducible exact LeO.none _)
   | (with_reducible refine LeO.ite ?_ ?_)
   | (with_reducible refine LeO.bind ?_ (fun _ => ?_))
   | exact ih0 _ _ _ _ _ _
   | exact ih1 _ _ _ _ _ _ _ _
   | exact mortmainref06_Live.mono _ _ _ _
   | exact mortmainref07_Out.mono _ _ _ _ _
   | exact mortmainref08_those.mono _ _ _ _
   | exact LeO.none _
   | refine LeO.ite ?_ ?_
   | refine LeO.bind ?_ (fun _ => ?_)
def mortmainref08_From.T10 : Bool × List (List Nat × List Nat) := (true, [([], []), ([], []), ([], []), ([], []), ([2, 3], [2, 3]), ([4], [4]), ([1, 5], [1, 5]), ([0, 6, 6], [0, 6]), ([7, 7, 0, 1, 2, 3, 4, 5, 6, 7], [0, 7])])
def mortmainref08_From.B10 : List Nat := [0, 0, 0, 0, 12, 28, 62, 127, 255]
theorem mortmainref08_From.tab10 : rtab .any (opsOf Try.f45 10) = mortmainref08_From.T10 := by kernel_rfl
theorem mortmainref08_From.bits10 : waitsOk mortmainref08_From.T10.2 mortmainref08_From.B10 = true := by kernel_rfl
set_option maxHeartbeats 8000000 in
set_option maxRecDepth 100000 in
theorem mortmainref08_From.calls (k : Nat) (A0_0 : Option Addr) (c0_0 : Nat) (l0_0 : List (S84)) (a0_1 : Int) (a0_2 : Int) (A1 : Option Addr) (c1 : Nat) (l1 : List Int) (r : List Int) (w : World) (hr0_0 : Kd.C k84 w A0_0 l0_0.length l0_0) (hc0_0 : l0_0.length ≤ c0_0) (hr1 : Kd.C (Kd.int .i64) w A1 l1.length l1) (hc1 : l1.length ≤ c1) (h : mortmainref08_From.f k l0_0 a0_1 a0_2 l1 = some r) :
  Calls Try.prog 45 #[.agg #[.slice A0_0 l0_0.length c0_0, .int .i64 a0_1, .int .i64 a0_2], .slice A1 l1.length c1] w fun e w' => ∃ v0_ : Value, e = .returned (v0_) ∧ Kd.R (Kd.int .i64) 3 w' w.heap.size (fun _ => True) v0_ r ∧ Below w.heap.size w w' := by
 have hu37 := Try.underlying37
 have HR0_0 := Aside0.mk hr0_0
 have HC0_0 := Aside0.mk hc0_0
 clear hr0_0 hc0_0
 have HR1 := Aside0.mk hr1
 have HC1 := Aside0.mk hc1
 clear hr1 hc1
 have HB := Aside0.mk (Below.refl w.heap.size w)
 have H : ((mortmainref06_Live.f k l0_0 a0_1 a0_2).bind fun t625 => ((mortmainref08_those.f k t625 l1 true).bind fun t628 => (mortmainref08_From.l0 k t625 t628 0 l0_0 a0_1 a0_2))) = some r := h
 clear h
 replace H := Option.bind_eq_some_iff.mp H
 obtain ⟨t625, A30, H⟩ := H
 replace H : ((mortmainref08_those.f k t625 l1 true).bind fun t628 => (mortmainref08_From.l0 k t625 t628 0 l0_0 a0_1 a0_2)) = some r := H
 have A3 := Aside0.mk A30
 clear A30
 replace H := Option.bind_eq_some_iff.mp H
 obtain ⟨t628, A40, H⟩ := H
 replace H : (mortmainref08_From.l0 k t625 t628 0 l0_0 a0_1 a0_2) = some r := H
 have A4 := Aside0.mk A40
 clear A40
 have H' := Aside0.mk H
 clear H
 go_enter Try.func45, Try.ntmps45
 go_wp2_with (first | ((with_reducible refine gate_dst (N := 2) rfl ?_); refine box_event ?hg (N := 2) ?hd (cs := #[.slice A0_0 l0_0.length c0_0, .int .i64 a0_1, .int .i64 a0_2]) (t := 37) ?hr ?_; (case hd => rfl); (case hg => rfl); (case hr => first | (go_simp; done) | (go_simp; rfl)); intro gb624 hg w5 hbox hb; have n0_ := Aside0.mk (below_step bT hb); have n1_ := Aside0.mk (hbox); have n2_ := Aside0.mk (gT hg bT); have n3_ := Aside0.mk (gT hg bT); clear HB; have HB := n0_; have BK624 := n1_; have GW624 := n2_; have GE624 := n3_; clear n0_ n1_ n2_ n3_; clear hb hbox hg; have hcz6_0 : w5.cell? ⟨gb624, 0, none⟩ = some (.slice A0_0 l0_0.length c0_0) := (blk_cell BK624.out 0).trans rfl; have hcz6_1 : w5.cell? ⟨gb624, 1, none⟩ = some (.int .i64 a0_1) := (blk_cell BK624.out 1).trans rfl; have hcz6_2 : w5.cell? ⟨gb624, 2, none⟩ = some (.int .i64 a0_2) := (blk_cell BK624.out 2).trans rfl; have hfz6_0 := blk_frozen BK624.out 0; have hfz6_1 := blk_frozen BK624.out 1; have hfz6_2 := blk_frozen BK624.out 2) | ((with_reducible refine gate_callee (f := 34) rfl ?_); refine goesL_ (some 11) rfl rfl Try.func34 (by kernel_rfl) rfl #[.agg #[.slice A0_0 l0_0.length c0_0, .int .i64 a0_1, .int .i64 a0_2]] rfl mT ?_; (with_reducible refine (mortmainref06_Live.calls k _ _ l0_0 a0_1 a0_2 t625 _ ?side1 ?side2 A3.out).mono ?_); (case side1 => repeat (first | exact (Kd.C_below HR0_0.out HB.out) | (with_reducible refine Kd.C_alloc ?_ _) | (with_reducible refine Kd.C_drewN ?_ _) | (with_reducible refine Kd.C_drew ?_))); (case side2 => exact HC0_0.out); rintro e w7 ⟨v626, rfl, ho0, hb⟩; refine ⟨_, rfl, ?_⟩; have n0_ := Aside0.mk (Kd.R_lower ho0 (below_size (bG GE624.out))); have n1_ := Aside0.mk (blk_below (g := gb624) (o := .cells #[.slice A0_0 l0_0.length c0_0, .int .i64 a0_1, .int .i64 a0_2] 37 (0, 0)) (kT BK624.out) hb); have n2_ := Aside0.mk (below_step (bG GE624.out) hb); clear BK624; clear HB; have HO627 := n0_; have BK624 := n1_; have HB := n2_; clear n0_ n1_ n2_; (try clear hb); (try clear hb2); (try clear hk); (try clear hi); (try clear ho0); obtain ⟨Ao8, co8, eo8⟩ := Kd.R_slice HO627.out; subst eo8) | ((with_reducible refine gate_callee (f := 82) rfl ?_); refine goesL_ (some 14) rfl rfl Try.func82 (by kernel_rfl) rfl #[.slice Ao8 t625.length co8, .slice A1 l1.length c1, .bool true] rfl mT ?_; (with_reducible refine (mortmainref08_those.calls k _ _ t625 _ _ l1 true t628 _ ?side1 ?side2 ?side3 ?side4 A4.out).mono ?_); (case side1 => repeat (first | exact (Kd.R_reads' HO627.out).2.2 | (with_reducible refine Kd.C_alloc ?_ _) | (with_reducible refine Kd.C_drewN ?_ _) | (with_reducible refine Kd.C_drew ?_))); (case side2 => exact (Kd.R_reads' HO627.out).2.1); (case side3 => repeat (first | exact (Kd.C_below HR1.out HB.out) | (with_reducible refine Kd.C_alloc ?_ _) | (with_reducible refine Kd.C_drewN ?_ _) | (with_reducible refine Kd.C_drew ?_))); (case side4 => exact HC1.out); rintro e w9 ⟨v629, rfl, ho0, hb⟩; refine ⟨_, rfl, ?_⟩; have n0_ := Aside0.mk (Kd.R_elder' (rT HO627.out) (Kd.R_base ho0) hb); have n1_ := Aside0.mk (Kd.R_lower (Kd.R_new' ho0 (Kd.R_lt (rT HO627.out))) (below_size (bG GE624.out))); have n2_ := Aside0.mk (blk_below (g := gb624) (o := .cells #[.slice A0_0 l0_0.length c0_0, .int .i64 a0_1, .int .i64 a0_2] 37 (0, 0)) (kT BK624.out) hb); have n3_ := Aside0.mk (below_step (bG GE624.out) hb); clear HO627; clear BK624; clear HB; have HO627 := n0_; have HO630 := n1_; have BK624 := n2_; have HB := n3_; clear n0_ n1_ n2_ n3_; (try clear hb); (try clear hb2); (try clear hk); (try clear hi); (try clear ho0)))
 go_loopg [6, 7] k (fun kq v6 v7 w' => ∃ (x6_1 : List Int) (x7_1 : Int), v7 = .int .i64 x7_1 ∧ Aside0 (mortmainref08_From.l0 kq t625 x6_1 x7_1 l0_0 a0_1 a0_2 = some r) ∧ Aside0 (kq ≤ k) ∧ Aside0 (Kd.R (Kd.int .i64) 3 w' w.heap.size (fun k_ => some k_ ≠ (v6 : Value).ownBlock) (.slice Ao8 t625.length co8) t625) ∧ Aside0 (Kd.R (Kd.int .i64) 3 w' w.heap.size (fun k_ => some k_ ≠ ((.slice Ao8 t625.length co8) : Value).ownBlock) v6 x6_1) ∧ Aside0 (w'.heap[gb624]? = some (.cells #[(.slice A0_0 l0_0.length c0_0), .int .i64 a0_1, .int .i64 a0_2] 37 (0, 0))) ∧ Aside0 (Below w.heap.size w w'))
 case atStart => exact ⟨(t628), (0), (by first | rfl | (simp; done) | (simp [*]; done)), H', ⟨Nat.le_refl _⟩, ⟨by (with_reducible repeat (first | apply Kd.R_alloc | apply Kd.R_drewN | apply Kd.R_drew)); exact Kd.R_mono HO627.out (fun _ hk => hk.2)⟩, ⟨by (with_reducible repeat (first | apply Kd.R_alloc | apply Kd.R_drewN | apply Kd.R_drew)); exact Kd.R_mono HO630.out (fun _ hk => hk.2)⟩, ⟨by (with_reducible repeat (first | refine blk_drewN ?_ _ | refine blk_drew ?_ | refine blk_alloc ?_ _)); exact BK624.out⟩, ⟨by repeat (first | (with_reducible first | exact HB.out | apply below_alloc | apply pw_below_drewN | apply below_drew1 | refine below_set ?_ GE624.out) | exact HB.out)⟩⟩
 case round =>
  clear H'
  try clear c1
  try clear p2
  try clear c3
  try clear c4
  try clear c8
  try clear hcz6_0
  try clear hcz6_1
  try clear hcz6_2
  try clear hfz6_0
  try clear hfz6_1
  try clear hfz6_2
  obtain ⟨x6_1, x7_1, rfl, HA, HK1, HO_5, HO_6, BK624, HB⟩ := hrel
  cases gk with
  | zero => exact absurd HA.out (by simp [mortmainref08_From.l0])
  | succ k1 =>
   have H := HA.out
   clear HA
   simp only [mortmainref08_From.l0] at H
   by_cases c10 : x7_1 < (t625.length : Int)
   ·rw [if_pos c10] at H
    have c10b0 : decide (x7_1 < (t625.length : Int)) = true := decide_eq_true c10
    clear c10
    obtain ⟨y631, hy631⟩ : ∃ y_ : List Int, y_ = (([] : List Int)) := ⟨_, rfl⟩
    replace H : (if y631.length + x6_1.length < 17592186044416 then (mortmainref08_From.l1 k1 t625 x6_1 x7_1 (y631 ++ x6_1) 0 l0_0 a0_1 a0_2) else (none)) = some r := by first | (rw [hy631]; with_reducible exact H) | (have H2_ := (Option.bind_some _ _).symm.trans H; rw [hy631]; with_reducible exact H2_) | (have H2_ := (Option.bind_some _ _).symm.trans H; with_reducible exact H2_) | with_reducible exact H | (rw [hy631]; exact H) | exact H
    have Ny631 := Aside0.mk hy631
    clear hy631
    by_cases c11 : y631.length + x6_1.length < 17592186044416
    ·rw [if_pos c11] at H
     have LMc11 := Aside0.mk c11
     clear c11
     obtain ⟨y634, hy634⟩ : ∃ y_ : List Int, y_ = (y631 ++ x6_1) := ⟨_, rfl⟩
     replace H : (mortmainref08_From.l1 k1 t625 x6_1 x7_1 y634 0 l0_0 a0_1 a0_2) = some r := by first | (rw [hy634]; with_reducible exact H) | (have H2_ := (Option.bind_some _ _).symm.trans H; rw [hy634]; with_reducible exact H2_) | (have H2_ := (Option.bind_some _ _).symm.trans H; with_reducible exact H2_) | with_reducible exact H | (rw [hy634]; exact H) | exact H
     have Ny634 := Aside0.mk hy634
     clear hy634
     have H' := Aside0.mk H
     clear H
     go_wp2_with (first | ((with_reducible refine gate_dst (N := 21) rfl ?_); refine Kd.R_lit (Kd.int .i64) _ 3 ?hg (N := 21) ?hd (xs := ([] : List Int)) (inner := []) (ok := fun _ => True) (okp := fun _ => True) ?hr ?hp (fun _ hk => hk) trivial (Below.refl _ _) (Nat.le_refl _) (by simp) ?_; (case hd => rfl); (case hg => rfl); (case hr => first | (go_simp; done) | (go_simp; rfl)); (case hp => exact (Reps.none _ _)); intro v632 w12 ho13 hb hg_ hnew_; clear hg_ hnew_; (first | rw [← Ny631.out] at ho13 | (simp only [Int.reduceToNat] at ho13; rw [← Ny631.out] at ho13)); have n0_ := Aside0.mk (Kd.R_elder' (rT HO_5.out) (Kd.R_base ho13) hb); have n1_ := Aside0.mk (Kd.R_elder' (rT HO_6.out) (Kd.R_base ho13) hb); have n2_ := Aside0.mk (Kd.R_lower (Kd.R_new' (Kd.R_new' ho13 (Kd.R_lt (rT HO_5.out))) (Kd.R_lt (rT HO_6.out))) (below_size (bG GE624.out))); have n3_ := Aside0.mk (blk_below (g := gb624) (o := .cells #[.slice A0_0 l0_0.length c0_0, .int .i64 a0_1, .int .i64 a0_2] 37 (0, 0)) (kT BK624.out) hb); have n4_ := Aside0.mk (below_step (bG GE624.out) hb); clear HO_5; clear HO_6; clear BK624; clear HB; have HO_5 := n0_; have HO_6 := n1_; have HO633 := n2_; have BK624 := n3_; have HB := n4_; clear n0_ n1_ n2_ n3_ n4_; clear hb ho13; obtain ⟨Ao15, co15, eo15⟩ := Kd.R_slice HO_6.out; subst eo15) | ((with_reducible refine gate_builtin (b := .append) (xs := #[.tmp 21, .tmp 22]) rfl ?_); at_builtin; refine Kd.R_append_rows (Kd.int .i64) (w0 := w) w.heap.size rfl (.tmp 21) (.tmp 22) 27 3 (.int .i64 0) 8 rfl Try.underlying27 info3 rfl (by decide) (by omega) v632 y631 x6_1 _ _ _ (fun k_ => some k_ ≠ (.slice Ao8 t625.length co8 : Value).ownBlock ∧ some k_ ≠ (.slice Ao15 x6_1.length co15 : Value).ownBlock) (fun _ => False) rfl rfl ?aO ?aR (fun _ _ h => h) (fun _ h => h.elim) ?aF ?aB ?aS ?aL ?_; (case aR => repeat (first | exact (Kd.R_reads' HO_6.out).2.2 | (with_reducible refine Kd.C_alloc ?_ _) | (with_reducible refine Kd.C_drewN ?_ _) | (with_reducible refine Kd.C_drew ?_))); (case aB => exact (bG GE624.out)); (case aF => exact (fun k_ hk => ⟨Kd.fresh' (Kd.R_lt (rT HO_5.out)) k_ hk, Kd.fresh' (Kd.R_lt (rT HO_6.out)) k_ hk⟩)); (case aO => exact (by (with_reducible repeat (first | apply Kd.R_alloc | apply Kd.R_drewN | apply Kd.R_drew)); exact Kd.R_mono HO633.out (fun _ hk => ⟨hk.1.2, hk.2⟩))); (case aS => exact (below_size (bG GE624.out))); (case aL => have := LMc11.out; omega); intro v635 w14 ho hb hg hat; rw [← Ny634.out] at ho; have n0_ := Aside0.mk (Kd.R_after (ok := (fun k_ => some k_ ≠ (.slice Ao15 x6_1.length co15 : Value).ownBlock)) (rT HO_5.out) hg hat); have n1_ := Aside0.mk (Kd.R_after (ok := (fun k_ => some k_ ≠ (.slice Ao8 t625.length co8 : Value).ownBlock)) (rT HO_6.out) hg hat); have n2_ := Aside0.mk (blk_grown (g := gb624) (o := .cells #[.slice A0_0 l0_0.length c0_0, .int .i64 a0_1, .int .i64 a0_2] 37 (0, 0)) (kT BK624.out) hg (Kd.R_ne HO633.out BK624.out (by decide))); have n3_ := Aside0.mk (hb); have n4_ := Aside0.mk (ho); clear HO_5; clear HO_6; clear BK624; clear HB; clear HO633; have HO_5 := n0_; have HO_6 := n1_; have BK624 := n2_; have HB := n3_; have HO636 := n4_; clear n0_ n1_ n2_ n3_ n4_; clear ho hb hg hat))
     go_loopg [8, 9] k1 (fun kq v8 v9 w' => ∃ (x8_2 : List Int) (x9_2 : Int), v9 = .int .i64 x9_2 ∧ Aside0 (mortmainref08_From.l1 kq t625 x6_1 x7_1 x8_2 x9_2 l0_0 a0_1 a0_2 = some r) ∧ Aside0 (kq ≤ k1) ∧ Aside0 (Kd.R (Kd.int .i64) 3 w' w.heap.size (fun k_ => some k_ ≠ ((.slice Ao15 x6_1.length co15) : Value).ownBlock ∧ some k_ ≠ (v8 : Value).ownBlock) (.slice Ao8 t625.length co8) t625) ∧ Aside0 (Kd.R (Kd.int .i64) 3 w' w.heap.size (fun k_ => some k_ ≠ ((.slice Ao8 t625.length co8) : Value).ownBlock ∧ some k_ ≠ (v8 : Value).ownBlock) (.slice Ao15 x6_1.length co15) x6_1) ∧ Aside0 (Kd.R (Kd.int .i64) 3 w' w.heap.size (fun k_ => some k_ ≠ ((.slice Ao8 t625.length co8) : Value).ownBlock ∧ some k_ ≠ ((.slice Ao15 x6_1.length co15) : Value).ownBlock) v8 x8_2) ∧ Aside0 (w'.heap[gb624]? = some (.cells #[(.slice A0_0 l0_0.length c0_0), .int .i64 a0_1, .int .i64 a0_2] 37 (0, 0))) ∧ Aside0 (Below w.heap.size w w'))
     case atStart => exact ⟨(y634), (0), (by first | rfl | (simp; done) | (simp [*]; done)), H', ⟨Nat.le_refl _⟩, ⟨by (with_reducible repeat (first | apply Kd.R_alloc | apply Kd.R_drewN | apply Kd.R_drew)); exact HO_5.out⟩, ⟨by (with_reducible repeat (first | apply Kd.R_alloc | apply Kd.R_drewN | apply Kd.R_drew)); exact HO_6.out⟩, ⟨by (with_reducible repeat (first | apply Kd.R_alloc | apply Kd.R_drewN | apply Kd.R_drew)); exact HO636.out⟩, ⟨by (with_reducible repeat (first | refine blk_drewN ?_ _ | refine blk_drew ?_ | refine blk_alloc ?_ _)); exact BK624.out⟩, ⟨by repeat (first | (with_reducible first | exact HB.out | apply below_alloc | apply pw_below_drewN | apply below_drew1 | refine below_set ?_ GE624.out) | exact HB.out)⟩⟩
     case round =>
      clear H'
      try clear c1
      try clear p2
      try clear c3
      try clear c4
      try clear c8
      try clear c10
      try clear c10b0
      try clear c11
      try clear hcz6_0
      try clear hcz6_1
      try clear hcz6_2
      try clear hfz6_0
      try clear hfz6_1
      try clear hfz6_2
      try clear p2
      obtain ⟨x8_2, x9_2, rfl, HA, HK2, HO_5, HO_6, HO_8, BK624, HB⟩ := hrel
      cases gk with
      | zero => exact absurd HA.out (by simp [mortmainref08_From.l1])
      | succ k2 =>
       have H := HA.out
       clear HA
       simp only [mortmainref08_From.l1] at H
       by_cases c16 : x9_2 < (x6_1.length : Int)
       ·rw [if_pos c16] at H
        have c16b0 : decide (x9_2 < (x6_1.length : Int)) = true := decide_eq_true c16
        clear c16
        by_cases c17 : 0 ≤ x9_2
        ·rw [if_pos c17] at H
         have c17b0 : decide (0 ≤ x9_2) = true := decide_eq_true c17
         clear c17
         replace H := Option.bind_eq_some_iff.mp H
         obtain ⟨t638, A180, H⟩ := H
         replace H : (if x8_2.length + t638.length < 17592186044416 then (mortmainref08_From.l1 k2 t625 x6_1 x7_1 (x8_2 ++ t638) (wrap64 (x9_2 + 1)) l0_0 a0_1 a0_2) else (none)) = some r := H
         have A18 := Aside0.mk A180
         clear A180
         by_cases c19 : x8_2.length + t638.length < 17592186044416
         ·rw [if_pos c19] at H
          have LMc19 := Aside0.mk c19
          clear c19
          obtain ⟨y641, hy641⟩ : ∃ y_ : List Int, y_ = (x8_2 ++ t638) := ⟨_, rfl⟩
          replace H : (mortmainref08_From.l1 k2 t625 x6_1 x7_1 y641 (wrap64 (x9_2 + 1)) l0_0 a0_1 a0_2) = some r := by first | (rw [hy641]; with_reducible exact H) | (have H2_ := (Option.bind_some _ _).symm.trans H; rw [hy641]; with_reducible exact H2_) | (have H2_ := (Option.bind_some _ _).symm.trans H; with_reducible exact H2_) | with_reducible exact H | (rw [hy641]; exact H) | exact H
          have Ny641 := Aside0.mk hy641
          clear hy641
          have H' := Aside0.mk H
          clear H
          try go_wp2
          have n0_ := Aside0.mk (Kd.R_drew HO_5.out)
          have n1_ := Aside0.mk (Kd.R_drew HO_6.out)
          have n2_ := Aside0.mk (Kd.R_drew HO_8.out)
          have n3_ := Aside0.mk (blk_drew BK624.out)
          have n4_ := Aside0.mk (below_drew1 HB.out)
          clear HO_5
          clear HO_6
          clear HO_8
          clear BK624
          clear HB
          have HO_5 := n0_
          have HO_6 := n1_
          have HO_8 := n2_
          have BK624 := n3_
          have HB := n4_
          clear n0_ n1_ n2_ n3_ n4_
          have p637 : 0 ≤ (x9_2 : Int) := oT
          have q637 : x9_2 < (x6_1.length : Int) := oT
          obtain ⟨ad637, e637, hx637_0⟩ := Kd.at_int (Kd.R_reads' HO_6.out).2.2 x9_2 p637 q637
          cases e637
          replace p637 := eq_true p637
          replace q637 := eq_true q637
          refine start_ (n := 9) (S := fun w' => w'.cell? ⟨gb624, 0, none⟩ = some (.slice A0_0 l0_0.length c0_0) ∧ w'.cell? ⟨gb624, 1, none⟩ = some (.int .i64 a0_1) ∧ w'.cell? ⟨gb624, 2, none⟩ = some (.int .i64 a0_2) ∧ w'.cell? (ad637.add (x9_2).toNat) = some (.int .i64 (rd x6_1 x9_2))) (ds := [7]) (bA 9 0) (by kernel_rfl) rfl rfl ⟨(blk_cell BK624.out 0).trans rfl, (blk_cell BK624.out 1).trans rfl, (blk_cell BK624.out 2).trans rfl, hx637_0⟩ (fun hHeld => ?_); refine with_tabW mortmainref08_From.tab10 mortmainref08_From.bits10 (fun HT_ HW_ => ?_)
          generalize wr.drew = w20 at HO_5 HO_6 HO_8 BK624 HB hx637_0 hHeld ⊢
          refine pure_ (i := 0) (N := some 30) (v := ?_) (a' := ?_) (bA 9 1) rfl rfl (an_ HT_.out) (fun _ _ _ h => h) (Or.inl ⟨by rfl, ?_⟩) ?_ ?_
          rotate_left
          ·intro w'
           go_simp
           with_reducible rfl
          rotate_left
          ·simp only [Act.put, q1, q2, q3, i64_w, i32_w]
           rfl
          refine pure_ (i := 2) (N := some 32) (v := ?_) (a' := ?_) (bA 9 5) rfl rfl (an_ HT_.out) (fun _ _ _ h => h) (Or.inl ⟨by rfl, ?_⟩) ?_ ?_
          rotate_left
          ·intro w'
           go_simp
           with_reducible rfl
          rotate_left
          ·simp only [Act.put, q1, q2, q3, i64_w, i32_w]
           rfl
          refine pure_ (i := 3) (N := some 33) (v := ?_) (a' := ?_) (bA 9 13) rfl rfl (an_ HT_.out) (fun _ _ _ h => h) (Or.inl ⟨by rfl, ?_⟩) ?_ ?_
          rotate_left
          ·intro w'
           go_simp
           with_reducible rfl
          rotate_left
          ·simp only [Act.put, q1, q2, q3, i64_w, i32_w]
           rfl
          refine pure_ (i := 4) (N := some 34) (v := ?_) (a' := ?_) (bA 9 29) rfl rfl (an_ HT_.out) (fun _ _ _ h => h) (Or.inl ⟨by rfl, ?_⟩) ?_ ?_
          rotate_left
          ·intro w'
           go_simp
           with_reducible rfl
          rotate_left
          ·simp only [Act.put, q1, q2, q3, i64_w, i32_w]
           rfl
          refine take_ (i := 1) (N := some 31) (v := ?_) (a' := ?_) (bA 9 31) rfl rfl (tw_ HT_.out HW_.out) (fun _ _ _ h => h) (Or.inl ⟨by rfl, ?_⟩) hHeld ?_ ?_
          rotate_left
          ·rintro w' ⟨s0, s1, s2, s3⟩
           try simp only [Int.toNat_natCast] at s0 s1 s2 s3
           go_simp
           with_reducible rfl
          rotate_left
          ·simp only [Act.put, q1, q2, q3, i64_w, i32_w]
           rfl
          refine take_ (i := 5) (N := some 35) (v := ?_) (a' := ?_) (bA 9 63) rfl rfl (tw_ HT_.out HW_.out) (fun _ _ _ h => h) (Or.inl ⟨by rfl, ?_⟩) hHeld ?_ ?_
          rotate_left
          ·rintro w' ⟨s0, s1, s2, s3⟩
           try simp only [Int.toNat_natCast] at s0 s1 s2 s3
           go_simp
           with_reducible rfl
          rotate_left
          ·simp only [Act.put, q1, q2, q3, i64_w, i32_w]
           rfl
          refine one_ (i := 6) (N := some 36) (bA 9 127) rfl rfl (one_of HT_.out (by kernel_rfl)) (by decide) (fun K hK => ?_)
          refine goes_ Try.func83 (by kernel_rfl) rfl #[.agg #[.slice A0_0 l0_0.length c0_0, .int .i64 a0_1, .int .i64 a0_2], .int .i64 (rd x6_1 x9_2)] (by rfl) rfl rfl mT ?_
          with_reducible refine (mortmainref07_Out.calls k2 _ _ l0_0 a0_1 a0_2 (rd x6_1 x9_2) t638 _ ?side1 ?side2 A18.out).mono ?_
          (case side1 => repeat (first | exact (Kd.C_below HR0_0.out HB.out) | (with_reducible refine Kd.C_alloc ?_ _) | (with_reducible refine Kd.C_drewN ?_ _) | (with_reducible refine Kd.C_drew ?_)))
          (case side2 => exact HC0_0.out)
          rintro e w21 ⟨v639, rfl, ho0, hb⟩
          have HS3_ := (hb.cell (World.block_lt_of_cell? _ _ (hHeld.2.2.2))).trans (hHeld.2.2.2)
          refine ⟨_, rfl, ?_⟩
          have n0_ := Aside0.mk (Kd.R_elder' (rT HO_5.out) (Kd.R_base ho0) hb)
          have n1_ := Aside0.mk (Kd.R_elder' (rT HO_6.out) (Kd.R_base ho0) hb)
          have n2_ := Aside0.mk (Kd.R_elder' (rT HO_8.out) (Kd.R_base ho0) hb)
          have n3_ := Aside0.mk (Kd.R_lower (Kd.R_new' (Kd.R_new' (Kd.R_new' ho0 (Kd.R_lt (rT HO_5.out))) (Kd.R_lt (rT HO_6.out))) (Kd.R_lt (rT HO_8.out))) (below_size (bG GE624.out)))
          have n4_ := Aside0.mk (blk_below (g := gb624) (o := .cells #[.slice A0_0 l0_0.length c0_0, .int .i64 a0_1, .int .i64 a0_2] 37 (0, 0)) (kT BK624.out) hb)
          have n5_ := Aside0.mk (below_step (bG GE624.out) hb)
          clear HO_5
          clear HO_6
          clear HO_8
          clear BK624
          clear HB
          have HO_5 := n0_
          have HO_6 := n1_
          have HO_8 := n2_
          have HO640 := n3_
          have BK624 := n4_
          have HB := n5_
          clear n0_ n1_ n2_ n3_ n4_ n5_
          (try clear hb)
          (try clear hb2)
          (try clear hk)
          (try clear hi)
          (try clear ho0)
          obtain ⟨Ao23, co23, eo23⟩ := Kd.R_slice HO640.out
          (first | subst eo23 | (injection eo23 with f1_ f2_ f3_; have f4_ := f1_.symm; have f5_ := f3_.symm; clear f1_ f2_ f3_; subst f4_; subst f5_))
          refine hK.out _ _ ⟨(blk_cell BK624.out 0).trans rfl, (blk_cell BK624.out 1).trans rfl, (blk_cell BK624.out 2).trans rfl, HS3_⟩ (fun hHeld => ?_)
          clear hK K
          refine norm_ (a' := ?_) ?_ ?_
          rotate_left
          ·show Act.put _ (some 36) _ = _
           simp only [Act.put, q1, q2, q3, i64_w, i32_w]
           rfl
          refine last_ (i := 7) (N := some 37) (bA 9 255) rfl rfl (one_of HT_.out (by kernel_rfl)) (by decide) (fun K hK => ?_)
          refine Kd.R_append_rows_step (Kd.int .i64) (w0 := w) w.heap.size (by rfl) (.tmp 30) (.tmp 36) 27 3 (.int .i64 0) 8 rfl Try.underlying27 info3 rfl (by decide) (by omega) u8 x8_2 t638 _ _ _ (fun k_ => some k_ ≠ (.slice Ao8 t625.length co8 : Value).ownBlock ∧ some k_ ≠ (.slice (some ad637) x6_1.length co15 : Value).ownBlock ∧ some k_ ≠ (.slice Ao23 t638.length co23 : Value).ownBlock) (fun _ => False) rfl rfl ?aO ?aR (fun _ _ h => h) (fun _ h => h.elim) ?aF ?aB ?aS ?aL ?_
          (case aR => repeat (first | exact (Kd.R_reads' HO640.out).2.2 | (with_reducible refine Kd.C_alloc ?_ _) | (with_reducible refine Kd.C_drewN ?_ _) | (with_reducible refine Kd.C_drew ?_)))
          (case aB => exact (bG GE624.out))
          (case aF => exact (fun k_ hk => ⟨Kd.fresh' (Kd.R_lt (rT HO_5.out)) k_ hk, Kd.fresh' (Kd.R_lt (rT HO_6.out)) k_ hk, Kd.fresh' (Kd.R_lt (rT HO640.out)) k_ hk⟩))
          (case aO => exact (by (with_reducible repeat (first | apply Kd.R_alloc | apply Kd.R_drewN | apply Kd.R_drew)); exact Kd.R_mono HO_8.out (fun _ hk => ⟨hk.1.1, ⟨hk.1.2, hk.2⟩⟩)))
          (case aS => exact (below_size (bG GE624.out)))
          (case aL => have := LMc19.out; omega)
          intro v642 w22 ho hb hg hat
          rw [← Ny641.out] at ho
          have n0_ := Aside0.mk (Kd.R_after (ok := (fun k_ => some k_ ≠ (.slice (some ad637) x6_1.length co15 : Value).ownBlock ∧ some k_ ≠ (.slice Ao23 t638.length co23 : Value).ownBlock)) (by (with_reducible repeat (first | apply Kd.R_alloc | apply Kd.R_drewN | apply Kd.R_drew)); exact Kd.R_mono HO_5.out (fun _ hk => ⟨⟨hk.1.1, hk.2⟩, hk.1.2⟩)) hg hat)
          have n1_ := Aside0.mk (Kd.R_after (ok := (fun k_ => some k_ ≠ (.slice Ao8 t625.length co8 : Value).ownBlock ∧ some k_ ≠ (.slice Ao23 t638.length co23 : Value).ownBlock)) (by (with_reducible repeat (first | apply Kd.R_alloc | apply Kd.R_drewN | apply Kd.R_drew)); exact Kd.R_mono HO_6.out (fun _ hk => ⟨⟨hk.1.1, hk.2⟩, hk.1.2⟩)) hg hat)
          have n2_ := Aside0.mk (blk_grown (g := gb624) (o := .cells #[.slice A0_0 l0_0.length c0_0, .int .i64 a0_1, .int .i64 a0_2] 37 (0, 0)) (kT BK624.out) hg (Kd.R_ne HO_8.out BK624.out (by decide)))
          have n3_ := Aside0.mk (Kd.R_after (ok := (fun k_ => some k_ ≠ (.slice Ao8 t625.length co8 : Value).ownBlock ∧ some k_ ≠ (.slice (some ad637) x6_1.length co15 : Value).ownBlock)) (by (with_reducible repeat (first | apply Kd.R_alloc | apply Kd.R_drewN | apply Kd.R_drew)); exact Kd.R_mono HO640.out (fun _ hk => ⟨⟨hk.1.1.2, hk.1.2⟩, hk.2⟩)) hg hat)
          have n4_ := Aside0.mk (hb)
          have n5_ := Aside0.mk (ho)
          clear HO_5
          clear HO_6
          clear BK624
          clear HO640
          clear HB
          clear HO_8
          have HO_5 := n0_
          have HO_6 := n1_
          have BK624 := n2_
          have HO640 := n3_
          have HB := n4_
          have HO643 := n5_
          clear n0_ n1_ n2_ n3_ n4_ n5_
          clear ho hb hg hat
          refine hK.out _ _ ?_
          clear hK K
          refine norm_ (a' := ?_) ?_ ?_
          rotate_left
          ·show Act.put _ (some 37) _ = _
           simp only [Act.put, q1, q2, q3, i64_w, i32_w]
           rfl
          refine pure_ (i := 8) (N := some 8) (v := ?_) (a' := ?_) (bA 9 511) rfl rfl (an_ HT_.out) (fun _ _ _ h => h) (Or.inl ⟨by rfl, ?_⟩) ?_ ?_
          rotate_left
          ·intro w'
           go_simp
           with_reducible rfl
          rotate_left
          ·simp only [Act.put, q1, q2, q3, i64_w, i32_w]
           rfl
          refine done_ (done_of HT_.out (by kernel_rfl)) ?_
          try go_wp2
          go_roundg k2
          case measure => have := HK1.out; have := HK2.out; omega
          case rel => exact ⟨(y641), (wrap64 (x9_2 + 1)), (by first | rfl | (simp; done) | (simp [*]; done)), H', ⟨by have := HK1.out; have := HK2.out; omega⟩, ⟨by (with_reducible repeat (first | apply Kd.R_alloc | apply Kd.R_drewN | apply Kd.R_drew)); exact Kd.R_mono HO_5.out (fun _ hk => ⟨hk.1.1, hk.2⟩)⟩, ⟨by (with_reducible repeat (first | apply Kd.R_alloc | apply Kd.R_drewN | apply Kd.R_drew)); exact Kd.R_mono HO_6.out (fun _ hk => ⟨hk.1.1, hk.2⟩)⟩, ⟨by (with_reducible repeat (first | apply Kd.R_alloc | apply Kd.R_drewN | apply Kd.R_drew)); exact Kd.R_mono HO643.out (fun _ hk => ⟨hk.1, hk.2.1⟩)⟩, ⟨by (with_reducible repeat (first | refine blk_drewN ?_ _ | refine blk_drew ?_ | refine blk_alloc ?_ _)); exact BK624.out⟩, ⟨by repeat (first | (with_reducible first | exact HB.out | apply below_alloc | apply pw_below_drewN | apply below_drew1 | refine below_set ?_ GE624.out) | exact HB.out)⟩⟩
         ·rw [if_neg c19] at H
          exact absurd H (by simp)
        ·rw [if_neg c17] at H
         exact absurd H (by simp)
       ·rw [if_neg c16] at H
        have c16b0 : decide (x9_2 < (x6_1.length : Int)) = false := decide_eq_false c16
        clear c16
        replace H := Option.bind_eq_some_iff.mp H
        obtain ⟨t644, A240, H⟩ := H
        replace H : (mortmainref08_From.l0 k2 t625 t644 (wrap64 (x7_1 + 1)) l0_0 a0_1 a0_2) = some r := H
        have A24 := Aside0.mk A240
        clear A240
        have H' := Aside0.mk H
        clear H
        obtain ⟨Ao25, co25, eo25⟩ := Kd.R_slice HO_8.out
        subst eo25
        go_wp2_with (first | ((with_reducible refine gate_callee (f := 82) rfl ?_); refine goesL_ (some 40) rfl rfl Try.func82 (by kernel_rfl) rfl #[.slice Ao8 t625.length co8, .slice Ao25 x8_2.length co25, .bool true] rfl mT ?_; (with_reducible refine (mortmainref08_those.calls k2 _ _ t625 _ _ x8_2 true t644 _ ?side1 ?side2 ?side3 ?side4 A24.out).mono ?_); (case side1 => repeat (first | exact (Kd.R_reads' HO_5.out).2.2 | (with_reducible refine Kd.C_alloc ?_ _) | (with_reducible refine Kd.C_drewN ?_ _) | (with_reducible refine Kd.C_drew ?_))); (case side2 => exact (Kd.R_reads' HO_5.out).2.1); (case side3 => repeat (first | exact (Kd.R_reads' HO_8.out).2.2 | (with_reducible refine Kd.C_alloc ?_ _) | (with_reducible refine Kd.C_drewN ?_ _) | (with_reducible refine Kd.C_drew ?_))); (case side4 => exact (Kd.R_reads' HO_8.out).2.1); rintro e w26 ⟨v645, rfl, ho0, hb⟩; refine ⟨_, rfl, ?_⟩; have n0_ := Aside0.mk (Kd.R_elder' (rT HO_5.out) (Kd.R_base ho0) hb); have n1_ := Aside0.mk (Kd.R_elder' (rT HO_6.out) (Kd.R_base ho0) hb); have n2_ := Aside0.mk (Kd.R_elder' (rT HO_8.out) (Kd.R_base ho0) hb); have n3_ := Aside0.mk (Kd.R_lower (Kd.R_new' (Kd.R_new' (Kd.R_new' ho0 (Kd.R_lt (rT HO_5.out))) (Kd.R_lt (rT HO_6.out))) (Kd.R_lt (rT HO_8.out))) (below_size (bG GE624.out))); have n4_ := Aside0.mk (blk_below (g := gb624) (o := .cells #[.slice A0_0 l0_0.length c0_0, .int .i64 a0_1, .int .i64 a0_2] 37 (0, 0)) (kT BK624.out) hb); have n5_ := Aside0.mk (below_step (bG GE624.out) hb); clear HO_5; clear HO_6; clear HO_8; clear BK624; clear HB; have HO_5 := n0_; have HO_6 := n1_; have HO_8 := n2_; have HO646 := n3_; have BK624 := n4_; have HB := n5_; clear n0_ n1_ n2_ n3_ n4_ n5_; (try clear hb); (try clear hb2); (try clear hk); (try clear hi); (try clear ho0)))
        go_roundg k2
        case measure => have := HK1.out; have := HK2.out; omega
        case rel => exact ⟨(t644), (wrap64 (x7_1 + 1)), (by first | rfl | (simp; done) | (simp [*]; done)), H', ⟨by have := HK1.out; have := HK2.out; omega⟩, ⟨by (with_reducible repeat (first | apply Kd.R_alloc | apply Kd.R_drewN | apply Kd.R_drew)); exact Kd.R_mono HO_5.out (fun _ hk => hk.2)⟩, ⟨by (with_reducible repeat (first | apply Kd.R_alloc | apply Kd.R_drewN | apply Kd.R_drew)); exact Kd.R_mono HO646.out (fun _ hk => hk.1.1.2)⟩, ⟨by (with_reducible repeat (first | refine blk_drewN ?_ _ | refine blk_drew ?_ | refine blk_alloc ?_ _)); exact BK624.out⟩, ⟨by repeat (first | (with_reducible first | exact HB.out | apply below_alloc | apply pw_below_drewN | apply below_drew1 | refine below_set ?_ GE624.out) | exact HB.out)⟩⟩
    ·rw [if_neg c11] at H
     exact absurd H (by simp)
   ·rw [if_neg c10] at H
    have c10b0 : decide (x7_1 < (t625.length : Int)) = false := decide_eq_false c10
    clear c10
    obtain rfl := Option.some.inj H
    go_wp2
    go_ret
    exact ⟨_, by first | rfl | (simp [errW_none, errW_some] <;> rfl) | (simp [*, errW_none, errW_some] <;> rfl), by (with_reducible repeat (first | apply Kd.R_alloc | apply Kd.R_drewN | apply Kd.R_drew)); exact Kd.R_mono HO_6.out (fun _ hk => trivial), by repeat (first | (with_reducible first | exact HB.out | apply below_alloc | apply pw_below_drewN | apply below_drew1 | refine below_set ?_ GE624.out) | exact HB.out)⟩
end Go.Proofs.Ytkmjboeabmmecaa.MAll
