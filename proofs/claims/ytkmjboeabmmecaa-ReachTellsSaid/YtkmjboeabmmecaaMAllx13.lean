/- The functions that the law reaches in plain Lean, and that the calls come to what these say. No condition. (By wip/myprint.py, this session's program over the kit's print.) -/
import Derived.Test.YtkmjboeabmmecaaMAllx6
namespace Go.Proofs.Ytkmjboeabmmecaa.MAll
open Go.RowKit Go.Proofs.YtkmjboeabmmecaaW.PrintWords Go.Proofs.YtkmjboeabmmecaaW.PrintLast Go.Proofs.YtkmjboeabmmecaaW.PrintMore
attribute [local go_sem] max2_int min2_int max_two min_two max_three min_three max_four min_four
set_option linter.unusedVariables false
set_option linter.unusedSimpArgs false
mutual
def mortmainref06_Sorted.l0 : Nat → List Int → Int → List (S84) → Int → Int → Option (List Int)
 | 0, _, _, _, _, _ => none
 | k + 1, x5, x6, x427000, x427001, x427002 => if x6 < (x5.length : Int) then (mortmainref06_Sorted.l1 k x5 x6 x6 x427000 x427001 x427002) else (some x5)
def mortmainref06_Sorted.l1 : Nat → List Int → Int → Int → List (S84) → Int → Int → Option (List Int)
 | 0, _, _, _, _, _, _ => none
 | k + 1, x5, x6, x7, x427000, x427001, x427002 => if x7 > 0 then ((mortmainref06_Plain.f k x427000 x427001 x427002).bind fun bt433 => (if 0 ≤ (wrap64 (x7 - 1)) then (if (wrap64 (x7 - 1)) < (x5.length : Int) then ((mortmainref03_Find.f k bt433.1 bt433.2 (rd x5 (wrap64 (x7 - 1)))).bind fun bt438 => ((mortmainref06_Plain.f k x427000 x427001 x427002).bind fun bt440 => (if 0 ≤ x7 then (if x7 < (x5.length : Int) then ((mortmainref03_Find.f k bt440.1 bt440.2 (rd x5 x7)).bind fun bt445 => (if bt438.1 < 0 then (mortmainref06_Sorted.l0 k x5 (wrap64 (x6 + 1)) x427000 x427001 x427002) else (if bt445.1 < 0 then (mortmainref06_Sorted.l0 k x5 (wrap64 (x6 + 1)) x427000 x427001 x427002) else (if 0 ≤ bt438.1 then (if bt438.1 < (x427000.length : Int) then (if 0 ≤ bt445.1 then (if bt445.1 < (x427000.length : Int) then (if ((rd_T84 x427000 bt438.1).f2.f0) ≤ ((rd_T84 x427000 bt445.1).f2.f0) then (mortmainref06_Sorted.l0 k x5 (wrap64 (x6 + 1)) x427000 x427001 x427002) else (mortmainref06_Sorted.l1 k ((x5.set (x7 : Int).toNat (rd x5 (wrap64 (x7 - 1)))).set ((wrap64 (x7 - 1)) : Int).toNat (rd x5 x7)) x6 (wrap64 (x7 - 1)) x427000 x427001 x427002)) else (none)) else (none)) else (none)) else (none))))) else (none)) else (none)))) else (none)) else (none))) else (mortmainref06_Sorted.l0 k x5 (wrap64 (x6 + 1)) x427000 x427001 x427002)
end
def mortmainref06_Sorted.f (k : Nat) (l0_0 : List (S84)) (a0_1 : Int) (a0_2 : Int) (l1 : List Int) : Option (List Int) := (some (([] : List Int) : List Int)).bind fun y427 => (if y427.length + l1.length < 17592186044416 then (mortmainref06_Sorted.l0 k (y427 ++ l1) 1 l0_0 a0_1 a0_2) else (none))
theorem mortmainref06_Sorted.mono_l : ∀ k, (∀ y0 y1 y2 y3 y4, LeO (mortmainref06_Sorted.l0 k y0 y1 y2 y3 y4) (mortmainref06_Sorted.l0 (k + 1) y0 y1 y2 y3 y4)) ∧ (∀ y0 y1 y2 y3 y4 y5, LeO (mortmainref06_Sorted.l1 k y0 y1 y2 y3 y4 y5) (mortmainref06_Sorted.l1 (k + 1) y0 y1 y2 y3 y4 y5))
 | 0 => ⟨fun _ _ _ _ _ r h => by simp [mortmainref06_Sorted.l0] at h, fun _ _ _ _ _ _ r h => by simp [mortmainref06_Sorted.l1] at h⟩
 | k + 1 => by
  obtain ⟨ih0, ih1⟩ := mortmainref06_Sorted.mono_l k
  refine ⟨?_, ?_⟩
  ·intro y0 y1 y2 y3 y4
   unfold mortmainref06_Sorted.l0
   repeat' first
   | (with_reducible exact ih0 _ _ _ _ _)
   | (with_reducible exact ih1 _ _ _ _ _ _)
   | (with_reducible exact mortmainref03_Find.mono _ _ _ _)
   | (with_reducible exact mortmainref06_Plain.mono _ _ _ _)
   | (with_reducible exact LeO.refl _)
   | (with_reducible exact LeO.none _)
   | (with_reducible refine LeO.ite ?_ ?_)
   | (with_reducible refine LeO.bind ?_ (fun _ => ?_))
   | exact ih0 _ _ _ _ _
   | exact ih1 _ _ _ _ _ _
   | exact mortmainref03_Find.mono _ _ _ _
   | exact mortmainref06_Plain.mono _ _ _ _
   | exact LeO.none _
   | refine LeO.ite ?_ ?_
   | refine LeO.bind ?_ (fun _ => ?_)
  ·intro y0 y1 y2 y3 y4 y5
   unfold mortmainref06_Sorted.l1
   repeat' first
   | (with_reducible exact ih0 _ _ _ _ _)
   | (with_reducible exact ih1 _ _ _ _ _ _)
   | (with_reducible exact mortmainref03_Find.mono _ _ _ _)
   | (with_reducible exact mortmainref06_Plain.mono _ _ _ _)
   | (with_reducible exact LeO.refl _)
   | (with_reducible exact LeO.none _)
   | (with_reducible refine LeO.ite ?_ ?_)
   | (with_reducible refine LeO.bind ?_ (fun _ => ?_))
   | exact ih0 _ _ _ _ _
   | exact ih1 _ _ _ _ _ _
   | exact mortmainref03_Find.mono _ _ _ _
   | exact mortmainref06_Plain.mono _ _ _ _
   | exact LeO.none _
   | refine LeO.ite ?_ ?_
   | refine LeO.bind ?_ (fun _ => ?_)
theorem mortmainref06_Sorted.mono : ∀ a0 a1 a2 a3 k, LeO (mortmainref06_Sorted.f k a0 a1 a2 a3) (mortmainref06_Sorted.f (k + 1) a0 a1 a2 a3) := by
 intro a0 a1 a2 a3 k
 obtain ⟨ih0, ih1⟩ := mortmainref06_Sorted.mono_l k
 unfold mortmainref06_Sorted.f
 repeat' first
   | (with_reducible exact ih0 _ _ _ _ _)
   | (with_reducible exact ih1 _ _ _ _ _ _)
   | (with_reducible exact mortmainref03_Find.mono _ _ _ _)
   | (with_reducible exact mortmainref06_Plain.mono _ _ _ _)
   | (with_reducible exact LeO.refl _)
   | (with_reducible exact LeO.none _)
   | (with_reducible refine LeO.ite ?_ ?_)
   | (with_reducible refine LeO.bind ?_ (fun _ => ?_))
   | exact ih0 _ _ _ _ _
   | exact ih1 _ _ _ _ _ _
   | exact mortmainref03_Find.mono _ _ _ _
   | exact mortmainref06_Plain.mono _ _ _ _
   | exact LeO.none _
   | refine LeO.ite ?_ ?_
   | refine LeO.bind ?_ (fun _ => ?_)
def mortmainref06_Sorted.T8 : Bool × List (List Nat × List Nat) := (true, [([], []), ([0], [0]), ([], []), ([], []), ([3], [3]), ([2, 4], [2, 4]), ([5], [5]), ([1, 6, 1], [1, 6]), ([7], [7]), ([8], [8]), ([8], [8]), ([9, 7, 0, 1, 2, 3, 4, 5, 6, 7, 8, 9], [9]), ([10, 11, 0, 1, 2, 3, 4, 5, 6, 7, 8, 9, 10, 11], [10])])
def mortmainref06_Sorted.B8 : List Nat := [0, 1, 0, 0, 8, 28, 60, 127, 255, 511, 511, 1023, 4095]
theorem mortmainref06_Sorted.tab8 : rtab .any (opsOf Try.f74 8) = mortmainref06_Sorted.T8 := by kernel_rfl
theorem mortmainref06_Sorted.bits8 : waitsOk mortmainref06_Sorted.T8.2 mortmainref06_Sorted.B8 = true := by kernel_rfl
def mortmainref06_Sorted.T9 : Bool × List (List Nat × List Nat) := (true, [([], []), ([0], [0]), ([], []), ([], []), ([2, 3], [2, 3]), ([4], [4]), ([1, 5, 1], [1, 5]), ([6], [6]), ([7], [7]), ([7], [7]), ([8, 6, 0, 1, 2, 3, 4, 5, 6, 7, 8], [8]), ([9, 10, 0, 1, 2, 3, 4, 5, 6, 7, 8, 9, 10], [9])])
def mortmainref06_Sorted.B9 : List Nat := [0, 1, 0, 0, 12, 28, 63, 127, 255, 255, 511, 2047]
theorem mortmainref06_Sorted.tab9 : rtab .any (opsOf Try.f74 9) = mortmainref06_Sorted.T9 := by kernel_rfl
theorem mortmainref06_Sorted.bits9 : waitsOk mortmainref06_Sorted.T9.2 mortmainref06_Sorted.B9 = true := by kernel_rfl
def mortmainref06_Sorted.T10 : Bool × List (List Nat × List Nat) := (true, [([], []), ([0], [0]), ([1], [1]), ([2], [2]), ([3, 2], [2, 3]), ([2, 4], [2, 4]), ([5, 2], [5]), ([6], [6]), ([7, 6], [6, 7]), ([6], [6]), ([8, 9, 6], [6, 8, 9]), ([10, 6], [6, 10]), ([11, 6], [6, 11]), ([12, 6], [6, 12]), ([6], [6]), ([14, 6], [6, 14]), ([6], [6]), ([15, 16, 6], [6, 15, 16]), ([17, 6], [6, 17]), ([18, 6], [6, 18]), ([19, 6], [6, 19]), ([13, 20, 6], [6, 13, 20]), ([6, 21], [6, 21])])
def mortmainref06_Sorted.B10 : List Nat := [0, 1, 3, 7, 15, 31, 63, 127, 255, 127, 1023, 2047, 4095, 8191, 127, 16511, 127, 114815, 245887, 508031, 1032319, 2097151, 4194303]
theorem mortmainref06_Sorted.tab10 : rtab .any (opsOf Try.f74 10) = mortmainref06_Sorted.T10 := by kernel_rfl
theorem mortmainref06_Sorted.bits10 : waitsOk mortmainref06_Sorted.T10.2 mortmainref06_Sorted.B10 = true := by kernel_rfl
set_option maxHeartbeats 8000000 in
set_option maxRecDepth 100000 in
theorem mortmainref06_Sorted.calls (k : Nat) (A0_0 : Option Addr) (c0_0 : Nat) (l0_0 : List (S84)) (a0_1 : Int) (a0_2 : Int) (A1 : Option Addr) (c1 : Nat) (l1 : List Int) (r : List Int) (w : World) (hr0_0 : Kd.C k84 w A0_0 l0_0.length l0_0) (hc0_0 : l0_0.length ≤ c0_0) (hr1 : Kd.C (Kd.int .i64) w A1 l1.length l1) (hc1 : l1.length ≤ c1) (h : mortmainref06_Sorted.f k l0_0 a0_1 a0_2 l1 = some r) :
  Calls Try.prog 74 #[.agg #[.slice A0_0 l0_0.length c0_0, .int .i64 a0_1, .int .i64 a0_2], .slice A1 l1.length c1] w fun e w' => ∃ v0_ : Value, e = .returned (v0_) ∧ Kd.R (Kd.int .i64) 3 w' w.heap.size (fun _ => True) v0_ r ∧ Below w.heap.size w w' := by
 have hu37 := Try.underlying37
 have HR0_0 := Aside0.mk hr0_0
 have HC0_0 := Aside0.mk hc0_0
 clear hr0_0 hc0_0
 have HR1 := Aside0.mk hr1
 have HC1 := Aside0.mk hc1
 clear hr1 hc1
 have HB := Aside0.mk (Below.refl w.heap.size w)
 have H : ((some (([] : List Int) : List Int)).bind fun y427 => (if y427.length + l1.length < 17592186044416 then (mortmainref06_Sorted.l0 k (y427 ++ l1) 1 l0_0 a0_1 a0_2) else (none))) = some r := h
 clear h
 obtain ⟨y427, hy427⟩ : ∃ y_ : List Int, y_ = (([] : List Int)) := ⟨_, rfl⟩
 replace H : (if y427.length + l1.length < 17592186044416 then (mortmainref06_Sorted.l0 k (y427 ++ l1) 1 l0_0 a0_1 a0_2) else (none)) = some r := by first | (rw [hy427]; with_reducible exact H) | (have H2_ := (Option.bind_some _ _).symm.trans H; rw [hy427]; with_reducible exact H2_) | (have H2_ := (Option.bind_some _ _).symm.trans H; with_reducible exact H2_) | with_reducible exact H | (rw [hy427]; exact H) | exact H
 have Ny427 := Aside0.mk hy427
 clear hy427
 by_cases c3 : y427.length + l1.length < 17592186044416
 ·rw [if_pos c3] at H
  have LMc3 := Aside0.mk c3
  clear c3
  obtain ⟨y430, hy430⟩ : ∃ y_ : List Int, y_ = (y427 ++ l1) := ⟨_, rfl⟩
  replace H : (mortmainref06_Sorted.l0 k y430 1 l0_0 a0_1 a0_2) = some r := by first | (rw [hy430]; with_reducible exact H) | (have H2_ := (Option.bind_some _ _).symm.trans H; rw [hy430]; with_reducible exact H2_) | (have H2_ := (Option.bind_some _ _).symm.trans H; with_reducible exact H2_) | with_reducible exact H | (rw [hy430]; exact H) | exact H
  have Ny430 := Aside0.mk hy430
  clear hy430
  have H' := Aside0.mk H
  clear H
  go_enter Try.func74, Try.ntmps74
  go_wp2_with (first | ((with_reducible refine gate_dst (N := 2) rfl ?_); refine box_event ?hg (N := 2) ?hd (cs := #[.slice A0_0 l0_0.length c0_0, .int .i64 a0_1, .int .i64 a0_2]) (t := 37) ?hr ?_; (case hd => rfl); (case hg => rfl); (case hr => first | (go_simp; done) | (go_simp; rfl)); intro gb426 hg w4 hbox hb; have n0_ := Aside0.mk (below_step bT hb); have n1_ := Aside0.mk (hbox); have n2_ := Aside0.mk (gT hg bT); have n3_ := Aside0.mk (gT hg bT); clear HB; have HB := n0_; have BK426 := n1_; have GW426 := n2_; have GE426 := n3_; clear n0_ n1_ n2_ n3_; clear hb hbox hg) | ((with_reducible refine gate_dst (N := 13) rfl ?_); refine Kd.R_lit (Kd.int .i64) _ 3 ?hg (N := 13) ?hd (xs := ([] : List Int)) (inner := []) (ok := fun _ => True) (okp := fun _ => True) ?hr ?hp (fun _ hk => hk) trivial (Below.refl _ _) (Nat.le_refl _) (by simp) ?_; (case hd => rfl); (case hg => rfl); (case hr => first | (go_simp; done) | (go_simp; rfl)); (case hp => exact (Reps.none _ _)); intro v428 w5 ho6 hb hg_ hnew_; clear hg_ hnew_; (first | rw [← Ny427.out] at ho6 | (simp only [Int.reduceToNat] at ho6; rw [← Ny427.out] at ho6)); have n0_ := Aside0.mk (Kd.R_lower ho6 (below_size (bG GE426.out))); have n1_ := Aside0.mk (blk_below (g := gb426) (o := .cells #[.slice A0_0 l0_0.length c0_0, .int .i64 a0_1, .int .i64 a0_2] 37 (0, 0)) (kT BK426.out) hb); have n2_ := Aside0.mk (below_step (bG GE426.out) hb); clear BK426; clear HB; have HO429 := n0_; have BK426 := n1_; have HB := n2_; clear n0_ n1_ n2_; clear hb ho6) | ((with_reducible refine gate_builtin (b := .append) (xs := #[.tmp 13, .tmp 14]) rfl ?_); at_builtin; refine Kd.R_append_rows (Kd.int .i64) (w0 := w) w.heap.size rfl (.tmp 13) (.tmp 14) 27 3 (.int .i64 0) 8 rfl Try.underlying27 info3 rfl (by decide) (by omega) v428 y427 l1 _ _ _ (fun _ => True) (fun _ => False) rfl rfl ?aO ?aR (fun _ _ h => h) (fun _ h => h.elim) ?aF ?aB ?aS ?aL ?_; (case aR => repeat (first | exact (Kd.C_below HR1.out HB.out) | (with_reducible refine Kd.C_alloc ?_ _) | (with_reducible refine Kd.C_drewN ?_ _) | (with_reducible refine Kd.C_drew ?_))); (case aB => exact (bG GE426.out)); (case aF => exact (fun _ _ => trivial)); (case aO => exact (rT HO429.out)); (case aS => exact (below_size (bG GE426.out))); (case aL => have := LMc3.out; omega); intro v431 w7 ho hb hg hat; rw [← Ny430.out] at ho; have n0_ := Aside0.mk (blk_grown (g := gb426) (o := .cells #[.slice A0_0 l0_0.length c0_0, .int .i64 a0_1, .int .i64 a0_2] 37 (0, 0)) (kT BK426.out) hg (Kd.R_ne HO429.out BK426.out (by decide))); have n1_ := Aside0.mk (hb); have n2_ := Aside0.mk (ho); clear BK426; clear HB; clear HO429; have BK426 := n0_; have HB := n1_; have HO432 := n2_; clear n0_ n1_ n2_; clear ho hb hg hat))
  go_loopg [6] k (fun kq v6 w' => ∃ (x5_1 : List Int) (x6_1 : Int), v6 = .int .i64 x6_1 ∧ Aside0 (mortmainref06_Sorted.l0 kq x5_1 x6_1 l0_0 a0_1 a0_2 = some r) ∧ Aside0 (kq ≤ k) ∧ Aside0 (Kd.R (Kd.int .i64) 3 w' w.heap.size (fun _ => True) v431 x5_1) ∧ Aside0 (w'.heap[gb426]? = some (.cells #[(.slice A0_0 l0_0.length c0_0), .int .i64 a0_1, .int .i64 a0_2] 37 (0, 0))) ∧ Aside0 (Below w.heap.size w w'))
  case atStart => exact ⟨(y430), (1), (by first | rfl | (simp; done) | (simp [*]; done)), H', ⟨Nat.le_refl _⟩, ⟨by (with_reducible repeat (first | apply Kd.R_alloc | apply Kd.R_drewN | apply Kd.R_drew)); exact HO432.out⟩, ⟨by (with_reducible repeat (first | refine blk_drewN ?_ _ | refine blk_drew ?_ | refine blk_alloc ?_ _)); exact BK426.out⟩, ⟨by repeat (first | (with_reducible first | exact HB.out | apply below_alloc | apply pw_below_drewN | apply below_drew1 | refine below_set ?_ GE426.out) | exact HB.out)⟩⟩
  case round =>
   clear H'
   try clear c1
   try clear p2
   try clear c3
   try clear c7
   obtain ⟨x5_1, x6_1, rfl, HA, HK1, HO_5, BK426, HB⟩ := hrel
   cases gk with
   | zero => exact absurd HA.out (by simp [mortmainref06_Sorted.l0])
   | succ k1 =>
    have H := HA.out
    clear HA
    simp only [mortmainref06_Sorted.l0] at H
    by_cases c8 : x6_1 < (x5_1.length : Int)
    ·rw [if_pos c8] at H
     have c8b0 : decide (x6_1 < (x5_1.length : Int)) = true := decide_eq_true c8
     clear c8
     have H' := Aside0.mk H
     clear H
     obtain ⟨Ao9, co9, eo9⟩ := Kd.R_slice HO_5.out
     subst eo9
     go_wp2
     go_loopg [7] k1 (fun kq v7 w' => ∃ (x5_2 : List Int) (x7_2 : Int), v7 = .int .i64 x7_2 ∧ Aside0 (mortmainref06_Sorted.l1 kq x5_2 x6_1 x7_2 l0_0 a0_1 a0_2 = some r) ∧ Aside0 (kq ≤ k1) ∧ Aside0 (Kd.R (Kd.int .i64) 3 w' w.heap.size (fun _ => True) (.slice Ao9 x5_1.length co9) x5_2) ∧ Aside0 (w'.heap[gb426]? = some (.cells #[(.slice A0_0 l0_0.length c0_0), .int .i64 a0_1, .int .i64 a0_2] 37 (0, 0))) ∧ Aside0 (Below w.heap.size w w'))
     case atStart => exact ⟨(x5_1), (x6_1), (by first | rfl | (simp; done) | (simp [*]; done)), H', ⟨Nat.le_refl _⟩, ⟨by (with_reducible repeat (first | apply Kd.R_alloc | apply Kd.R_drewN | apply Kd.R_drew)); exact HO_5.out⟩, ⟨by (with_reducible repeat (first | refine blk_drewN ?_ _ | refine blk_drew ?_ | refine blk_alloc ?_ _)); exact BK426.out⟩, ⟨by repeat (first | (with_reducible first | exact HB.out | apply below_alloc | apply pw_below_drewN | apply below_drew1 | refine below_set ?_ GE426.out) | exact HB.out)⟩⟩
     case round =>
      clear H'
      try clear c1
      try clear p2
      try clear c3
      try clear c7
      try clear c8
      try clear c8b0
      try clear p2
      obtain ⟨x5_2, x7_2, rfl, HA, HK2, HO_5, BK426, HB⟩ := hrel
      have hl5_2 := (Kd.R_reads' HO_5.out).1
      rw [hl5_2] at HO_5
      (try simp only [hl5_2])
      (try simp only [hl5_2] at BK426)
      cases gk with
      | zero => exact absurd HA.out (by simp [mortmainref06_Sorted.l1])
      | succ k2 =>
       have H := HA.out
       clear HA
       simp only [mortmainref06_Sorted.l1] at H
       by_cases c10 : x7_2 > 0
       ·rw [if_pos c10] at H
        have c10b0 : decide (0 < x7_2) = true := decide_eq_true c10
        clear c10
        replace H := Option.bind_eq_some_iff.mp H
        obtain ⟨⟨t433, t436⟩, A110, H⟩ := H
        replace H : (if 0 ≤ (wrap64 (x7_2 - 1)) then (if (wrap64 (x7_2 - 1)) < (x5_2.length : Int) then ((mortmainref03_Find.f k2 t433 t436 (rd x5_2 (wrap64 (x7_2 - 1)))).bind fun bt438 => ((mortmainref06_Plain.f k2 l0_0 a0_1 a0_2).bind fun bt440 => (if 0 ≤ x7_2 then (if x7_2 < (x5_2.length : Int) then ((mortmainref03_Find.f k2 bt440.1 bt440.2 (rd x5_2 x7_2)).bind fun bt445 => (if bt438.1 < 0 then (mortmainref06_Sorted.l0 k2 x5_2 (wrap64 (x6_1 + 1)) l0_0 a0_1 a0_2) else (if bt445.1 < 0 then (mortmainref06_Sorted.l0 k2 x5_2 (wrap64 (x6_1 + 1)) l0_0 a0_1 a0_2) else (if 0 ≤ bt438.1 then (if bt438.1 < (l0_0.length : Int) then (if 0 ≤ bt445.1 then (if bt445.1 < (l0_0.length : Int) then (if ((rd_T84 l0_0 bt438.1).f2.f0) ≤ ((rd_T84 l0_0 bt445.1).f2.f0) then (mortmainref06_Sorted.l0 k2 x5_2 (wrap64 (x6_1 + 1)) l0_0 a0_1 a0_2) else (mortmainref06_Sorted.l1 k2 ((x5_2.set (x7_2 : Int).toNat (rd x5_2 (wrap64 (x7_2 - 1)))).set ((wrap64 (x7_2 - 1)) : Int).toNat (rd x5_2 x7_2)) x6_1 (wrap64 (x7_2 - 1)) l0_0 a0_1 a0_2)) else (none)) else (none)) else (none)) else (none))))) else (none)) else (none)))) else (none)) else (none)) = some r := H
        have A11 := Aside0.mk A110
        clear A110
        obtain ⟨ji12, hji12⟩ : ∃ j_ : Int, (wrap64 (x7_2 - 1)) = j_ := ⟨_, rfl⟩
        replace H : (if 0 ≤ (ji12) then (if (ji12) < (x5_2.length : Int) then ((mortmainref03_Find.f k2 t433 t436 (rd x5_2 (ji12))).bind fun bt438 => ((mortmainref06_Plain.f k2 l0_0 a0_1 a0_2).bind fun bt440 => (if 0 ≤ x7_2 then (if x7_2 < (x5_2.length : Int) then ((mortmainref03_Find.f k2 bt440.1 bt440.2 (rd x5_2 x7_2)).bind fun bt445 => (if bt438.1 < 0 then (mortmainref06_Sorted.l0 k2 x5_2 (wrap64 (x6_1 + 1)) l0_0 a0_1 a0_2) else (if bt445.1 < 0 then (mortmainref06_Sorted.l0 k2 x5_2 (wrap64 (x6_1 + 1)) l0_0 a0_1 a0_2) else (if 0 ≤ bt438.1 then (if bt438.1 < (l0_0.length : Int) then (if 0 ≤ bt445.1 then (if bt445.1 < (l0_0.length : Int) then (if ((rd_T84 l0_0 bt438.1).f2.f0) ≤ ((rd_T84 l0_0 bt445.1).f2.f0) then (mortmainref06_Sorted.l0 k2 x5_2 (wrap64 (x6_1 + 1)) l0_0 a0_1 a0_2) else (mortmainref06_Sorted.l1 k2 ((x5_2.set (x7_2 : Int).toNat (rd x5_2 (ji12))).set ((ji12) : Int).toNat (rd x5_2 x7_2)) x6_1 ji12 l0_0 a0_1 a0_2)) else (none)) else (none)) else (none)) else (none))))) else (none)) else (none)))) else (none)) else (none)) = some r := by first | (rw [hji12] at H; exact H) | (simp only [hji12] at H ⊢; exact H)
        (try rw [hji12] at A11)
        have hji12w : (IntKind.i64.wrap (x7_2 - 1)) = ji12 := (i64_w _).trans hji12
        by_cases c13 : 0 ≤ (ji12)
        ·rw [if_pos c13] at H
         have c13b0 : decide (0 ≤ (ji12)) = true := decide_eq_true c13
         clear c13
         by_cases c14 : (ji12) < (x5_2.length : Int)
         ·rw [if_pos c14] at H
          have c14b0 : decide ((ji12) < (x5_2.length : Int)) = true := decide_eq_true c14
          clear c14
          replace H := Option.bind_eq_some_iff.mp H
          obtain ⟨⟨t438, t439⟩, A150, H⟩ := H
          replace H : ((mortmainref06_Plain.f k2 l0_0 a0_1 a0_2).bind fun bt440 => (if 0 ≤ x7_2 then (if x7_2 < (x5_2.length : Int) then ((mortmainref03_Find.f k2 bt440.1 bt440.2 (rd x5_2 x7_2)).bind fun bt445 => (if t438 < 0 then (mortmainref06_Sorted.l0 k2 x5_2 (wrap64 (x6_1 + 1)) l0_0 a0_1 a0_2) else (if bt445.1 < 0 then (mortmainref06_Sorted.l0 k2 x5_2 (wrap64 (x6_1 + 1)) l0_0 a0_1 a0_2) else (if 0 ≤ t438 then (if t438 < (l0_0.length : Int) then (if 0 ≤ bt445.1 then (if bt445.1 < (l0_0.length : Int) then (if ((rd_T84 l0_0 t438).f2.f0) ≤ ((rd_T84 l0_0 bt445.1).f2.f0) then (mortmainref06_Sorted.l0 k2 x5_2 (wrap64 (x6_1 + 1)) l0_0 a0_1 a0_2) else (mortmainref06_Sorted.l1 k2 ((x5_2.set (x7_2 : Int).toNat (rd x5_2 (ji12))).set ((ji12) : Int).toNat (rd x5_2 x7_2)) x6_1 ji12 l0_0 a0_1 a0_2)) else (none)) else (none)) else (none)) else (none))))) else (none)) else (none))) = some r := H
          have A15 := Aside0.mk A150
          clear A150
          replace H := Option.bind_eq_some_iff.mp H
          obtain ⟨⟨t440, t443⟩, A160, H⟩ := H
          replace H : (if 0 ≤ x7_2 then (if x7_2 < (x5_2.length : Int) then ((mortmainref03_Find.f k2 t440 t443 (rd x5_2 x7_2)).bind fun bt445 => (if t438 < 0 then (mortmainref06_Sorted.l0 k2 x5_2 (wrap64 (x6_1 + 1)) l0_0 a0_1 a0_2) else (if bt445.1 < 0 then (mortmainref06_Sorted.l0 k2 x5_2 (wrap64 (x6_1 + 1)) l0_0 a0_1 a0_2) else (if 0 ≤ t438 then (if t438 < (l0_0.length : Int) then (if 0 ≤ bt445.1 then (if bt445.1 < (l0_0.length : Int) then (if ((rd_T84 l0_0 t438).f2.f0) ≤ ((rd_T84 l0_0 bt445.1).f2.f0) then (mortmainref06_Sorted.l0 k2 x5_2 (wrap64 (x6_1 + 1)) l0_0 a0_1 a0_2) else (mortmainref06_Sorted.l1 k2 ((x5_2.set (x7_2 : Int).toNat (rd x5_2 (ji12))).set ((ji12) : Int).toNat (rd x5_2 x7_2)) x6_1 ji12 l0_0 a0_1 a0_2)) else (none)) else (none)) else (none)) else (none))))) else (none)) else (none)) = some r := H
          have A16 := Aside0.mk A160
          clear A160
          by_cases c17 : 0 ≤ x7_2
          ·rw [if_pos c17] at H
           have c17b0 : decide (0 ≤ x7_2) = true := decide_eq_true c17
           clear c17
           by_cases c18 : x7_2 < (x5_2.length : Int)
           ·rw [if_pos c18] at H
            have c18b0 : decide (x7_2 < (x5_2.length : Int)) = true := decide_eq_true c18
            clear c18
            replace H := Option.bind_eq_some_iff.mp H
            obtain ⟨⟨t445, t446⟩, A190, H⟩ := H
            replace H : (if t438 < 0 then (mortmainref06_Sorted.l0 k2 x5_2 (wrap64 (x6_1 + 1)) l0_0 a0_1 a0_2) else (if t445 < 0 then (mortmainref06_Sorted.l0 k2 x5_2 (wrap64 (x6_1 + 1)) l0_0 a0_1 a0_2) else (if 0 ≤ t438 then (if t438 < (l0_0.length : Int) then (if 0 ≤ t445 then (if t445 < (l0_0.length : Int) then (if ((rd_T84 l0_0 t438).f2.f0) ≤ ((rd_T84 l0_0 t445).f2.f0) then (mortmainref06_Sorted.l0 k2 x5_2 (wrap64 (x6_1 + 1)) l0_0 a0_1 a0_2) else (mortmainref06_Sorted.l1 k2 ((x5_2.set (x7_2 : Int).toNat (rd x5_2 (ji12))).set ((ji12) : Int).toNat (rd x5_2 x7_2)) x6_1 ji12 l0_0 a0_1 a0_2)) else (none)) else (none)) else (none)) else (none)))) = some r := H
            have A19 := Aside0.mk A190
            clear A190
            have H' := Aside0.mk H
            clear H
            try go_wp2
            have n0_ := Aside0.mk (Kd.R_drew HO_5.out)
            have n1_ := Aside0.mk (blk_drew BK426.out)
            have n2_ := Aside0.mk (below_drew1 HB.out)
            clear HO_5
            clear BK426
            clear HB
            have HO_5 := n0_
            have BK426 := n1_
            have HB := n2_
            clear n0_ n1_ n2_
            have p437 : 0 ≤ ((ji12) : Int) := oT
            have q437 : (ji12) < (x5_2.length : Int) := oT
            obtain ⟨ad437, e437, hx437_0⟩ := Kd.at_int (Kd.R_reads' HO_5.out).2.2 (ji12) p437 q437
            cases e437
            replace p437 := eq_true p437
            replace q437 := eq_true q437
            refine start_ (n := 13) (S := fun w' => w'.cell? ⟨gb426, 0, none⟩ = some (.slice A0_0 l0_0.length c0_0) ∧ w'.cell? ⟨gb426, 1, none⟩ = some (.int .i64 a0_1) ∧ w'.cell? ⟨gb426, 2, none⟩ = some (.int .i64 a0_2) ∧ w'.cell? (ad437.add ((ji12)).toNat) = some (.int .i64 (rd x5_2 (ji12)))) (ds := []) (bA 13 0) (by kernel_rfl) rfl rfl ⟨(blk_cell BK426.out 0).trans rfl, (blk_cell BK426.out 1).trans rfl, (blk_cell BK426.out 2).trans rfl, hx437_0⟩ (fun hHeld => ?_); refine with_tabW mortmainref06_Sorted.tab8 mortmainref06_Sorted.bits8 (fun HT_ HW_ => ?_)
            generalize wr.drew = w21 at HO_5 BK426 HB hx437_0 hHeld ⊢
            refine pure_ (i := 2) (N := some 30) (v := ?_) (a' := ?_) (bA 13 4) rfl rfl (an_ HT_.out) (fun _ _ _ h => h) (Or.inl ⟨by rfl, ?_⟩) ?_ ?_
            rotate_left
            ·intro w'
             go_simp
             with_reducible rfl
            rotate_left
            ·simp only [Act.put, q1, q2, q3, i64_w, i32_w]
             rfl
            refine pure_ (i := 3) (N := some 31) (v := ?_) (a' := ?_) (bA 13 12) rfl rfl (an_ HT_.out) (fun _ _ _ h => h) (Or.inl ⟨by rfl, ?_⟩) ?_ ?_
            rotate_left
            ·intro w'
             go_simp
             with_reducible rfl
            rotate_left
            ·simp only [Act.put, q1, q2, q3, i64_w, i32_w]
             rfl
            refine pure_ (i := 4) (N := some 32) (v := ?_) (a' := ?_) (bA 13 28) rfl rfl (an_ HT_.out) (fun _ _ _ h => h) (Or.inl ⟨by rfl, ?_⟩) ?_ ?_
            rotate_left
            ·intro w'
             go_simp
             with_reducible rfl
            rotate_left
            ·simp only [Act.put, q1, q2, q3, i64_w, i32_w]
             rfl
            refine pure_ (i := 5) (N := some 33) (v := ?_) (a' := ?_) (bA 13 60) rfl rfl (an_ HT_.out) (fun _ _ _ h => h) (Or.inl ⟨by rfl, ?_⟩) ?_ ?_
            rotate_left
            ·intro w'
             go_simp
             with_reducible rfl
            rotate_left
            ·simp only [Act.put, q1, q2, q3, i64_w, i32_w]
             rfl
            refine take_ (i := 0) (N := some 28) (v := ?_) (a' := ?_) (bA 13 61) rfl rfl (tw_ HT_.out HW_.out) (fun _ _ _ h => h) (Or.inl ⟨by rfl, ?_⟩) hHeld ?_ ?_
            rotate_left
            ·rintro w' ⟨s0, s1, s2, s3⟩
             try simp only [Int.toNat_natCast] at s0 s1 s2 s3
             go_simp
             with_reducible rfl
            rotate_left
            ·simp only [Act.put, q1, q2, q3, i64_w, i32_w]
             rfl
            refine take_ (i := 6) (N := some 34) (v := ?_) (a' := ?_) (bA 13 125) rfl rfl (tw_ HT_.out HW_.out) (fun _ _ _ h => h) (Or.inl ⟨by rfl, ?_⟩) hHeld ?_ ?_
            rotate_left
            ·rintro w' ⟨s0, s1, s2, s3⟩
             try simp only [Int.toNat_natCast] at s0 s1 s2 s3
             go_simp
             with_reducible rfl
            rotate_left
            ·simp only [Act.put, q1, q2, q3, i64_w, i32_w]
             rfl
            refine one_ (i := 1) (N := some 29) (bA 13 127) rfl rfl (one_of HT_.out (by kernel_rfl)) (by decide) (fun K hK => ?_)
            refine goes_ Try.func57 (by kernel_rfl) rfl #[.agg #[.slice A0_0 l0_0.length c0_0, .int .i64 a0_1, .int .i64 a0_2]] (by rfl) rfl rfl mT ?_
            with_reducible refine (mortmainref06_Plain.calls k2 _ _ l0_0 a0_1 a0_2 t433 t436 _ ?side1 ?side2 A11.out).mono ?_
            (case side1 => repeat (first | exact (Kd.C_below HR0_0.out HB.out) | (with_reducible refine Kd.C_alloc ?_ _) | (with_reducible refine Kd.C_drewN ?_ _) | (with_reducible refine Kd.C_drew ?_)))
            (case side2 => exact HC0_0.out)
            rintro e w22 ⟨v434, rfl, ho0, hb⟩
            have HS3_ := (hb.cell (World.block_lt_of_cell? _ _ (hHeld.2.2.2))).trans (hHeld.2.2.2)
            refine ⟨_, rfl, ?_⟩
            have n0_ := Aside0.mk (Kd.R_below (rT HO_5.out) hb)
            have n1_ := Aside0.mk (Kd.R_lower ho0 (below_size (bG GE426.out)))
            have n2_ := Aside0.mk (blk_below (g := gb426) (o := .cells #[.slice A0_0 l0_0.length c0_0, .int .i64 a0_1, .int .i64 a0_2] 37 (0, 0)) (kT BK426.out) hb)
            have n3_ := Aside0.mk (below_step (bG GE426.out) hb)
            clear HO_5
            clear BK426
            clear HB
            have HO_5 := n0_
            have HO435 := n1_
            have BK426 := n2_
            have HB := n3_
            clear n0_ n1_ n2_ n3_
            (try clear hb)
            (try clear hb2)
            (try clear hk)
            (try clear hi)
            (try clear ho0)
            obtain ⟨Ao23, co23, eo23⟩ := Kd.R_slice HO435.out
            (first | subst eo23 | (injection eo23 with f1_ f2_ f3_; have f4_ := f1_.symm; have f5_ := f3_.symm; clear f1_ f2_ f3_; subst f4_; subst f5_))
            refine hK.out _ _ ⟨(blk_cell BK426.out 0).trans rfl, (blk_cell BK426.out 1).trans rfl, (blk_cell BK426.out 2).trans rfl, HS3_⟩ (fun hHeld => ?_)
            clear hK K
            refine norm_ (a' := ?_) ?_ ?_
            rotate_left
            ·show Act.put _ (some 29) _ = _
             simp only [Act.put, q1, q2, q3, i64_w, i32_w]
             rfl
            refine one_ (i := 7) (N := some 35) (bA 13 255) rfl rfl (one_of HT_.out (by kernel_rfl)) (by decide) (fun K hK => ?_)
            refine goes_ Try.func56 (by kernel_rfl) rfl #[.agg #[.slice Ao23 t433.length co23, .int .i64 t436], .int .i64 (rd x5_2 (ji12))] (by rfl) rfl rfl (by (try simp only [List.map_toArray, List.map_cons, List.map_nil]); first | done | (simp only [hji12]; rfl) | rfl | (simp only [List.length_drop, List.length_take]; rfl)) ?_
            with_reducible refine (mortmainref03_Find.calls k2 _ _ t433 t436 (rd x5_2 (ji12)) t438 t439 _ ?side1 ?side2 A15.out).mono ?_
            (case side1 => repeat (first | exact (Kd.R_reads' HO435.out).2.2 | (with_reducible refine Kd.C_alloc ?_ _) | (with_reducible refine Kd.C_drewN ?_ _) | (with_reducible refine Kd.C_drew ?_)))
            (case side2 => exact (Kd.R_reads' HO435.out).2.1)
            rintro e w24 ⟨rfl, hb⟩
            have HS3_ := (hb.cell (World.block_lt_of_cell? _ _ (hHeld.2.2.2))).trans (hHeld.2.2.2)
            refine ⟨_, rfl, ?_⟩
            have n0_ := Aside0.mk (Kd.R_below (rT HO_5.out) hb)
            have n1_ := Aside0.mk (Kd.R_below (rT HO435.out) hb)
            have n2_ := Aside0.mk (blk_below (g := gb426) (o := .cells #[.slice A0_0 l0_0.length c0_0, .int .i64 a0_1, .int .i64 a0_2] 37 (0, 0)) (kT BK426.out) hb)
            have n3_ := Aside0.mk (below_step (bG GE426.out) hb)
            clear HO_5
            clear HO435
            clear BK426
            clear HB
            have HO_5 := n0_
            have HO435 := n1_
            have BK426 := n2_
            have HB := n3_
            clear n0_ n1_ n2_ n3_
            (try clear hb)
            (try clear hb2)
            (try clear hk)
            (try clear hi)
            refine hK.out _ _ ⟨(blk_cell BK426.out 0).trans rfl, (blk_cell BK426.out 1).trans rfl, (blk_cell BK426.out 2).trans rfl, HS3_⟩ (fun hHeld => ?_)
            clear hK K
            refine norm_ (a' := ?_) ?_ ?_
            rotate_left
            ·show Act.put _ (some 35) _ = _
             simp only [Act.put, q1, q2, q3, i64_w, i32_w]
             rfl
            refine pure_ (i := 8) (N := some 27) (v := ?_) (a' := ?_) (bA 13 511) rfl rfl (an_ HT_.out) (fun _ _ _ h => h) (Or.inl ⟨by rfl, ?_⟩) ?_ ?_
            rotate_left
            ·intro w'
             go_simp
             with_reducible rfl
            rotate_left
            ·simp only [Act.put, q1, q2, q3, i64_w, i32_w]
             rfl
            refine pure_ (i := 9) (N := some 36) (v := ?_) (a' := ?_) (bA 13 1023) rfl rfl (an_ HT_.out) (fun _ _ _ h => h) (Or.inl ⟨by rfl, ?_⟩) ?_ ?_
            rotate_left
            ·intro w'
             go_simp
             with_reducible rfl
            rotate_left
            ·simp only [Act.put, q1, q2, q3, i64_w, i32_w]
             rfl
            refine pure_ (i := 10) (N := some 37) (v := ?_) (a' := ?_) (bA 13 2047) rfl rfl (an_ HT_.out) (fun _ _ _ h => h) (Or.inl ⟨by rfl, ?_⟩) ?_ ?_
            rotate_left
            ·intro w'
             go_simp
             with_reducible rfl
            rotate_left
            ·simp only [Act.put, q1, q2, q3, i64_w, i32_w]
             rfl
            refine pure_ (i := 11) (N := some 8) (v := ?_) (a' := ?_) (bA 13 4095) rfl rfl (an_ HT_.out) (fun _ _ _ h => h) (Or.inl ⟨by rfl, ?_⟩) ?_ ?_
            rotate_left
            ·intro w'
             go_simp
             with_reducible rfl
            rotate_left
            ·simp only [Act.put, q1, q2, q3, i64_w, i32_w]
             rfl
            refine pure_ (i := 12) (N := some 9) (v := ?_) (a' := ?_) (bA 13 8191) rfl rfl (an_ HT_.out) (fun _ _ _ h => h) (Or.inl ⟨by rfl, ?_⟩) ?_ ?_
            rotate_left
            ·intro w'
             go_simp
             with_reducible rfl
            rotate_left
            ·simp only [Act.put, q1, q2, q3, i64_w, i32_w]
             rfl
            refine done_ (done_of HT_.out (by kernel_rfl)) ?_
            try go_wp2
            have n0_ := Aside0.mk (Kd.R_drew HO_5.out)
            have n1_ := Aside0.mk (Kd.R_drew HO435.out)
            have n2_ := Aside0.mk (blk_drew BK426.out)
            have n3_ := Aside0.mk (below_drew1 HB.out)
            clear HO_5
            clear HO435
            clear BK426
            clear HB
            have HO_5 := n0_
            have HO435 := n1_
            have BK426 := n2_
            have HB := n3_
            clear n0_ n1_ n2_ n3_
            have p444 : 0 ≤ (x7_2 : Int) := oT
            have q444 : x7_2 < (x5_2.length : Int) := oT
            obtain ⟨ad444, e444, hx444_0⟩ := Kd.at_int (Kd.R_reads' HO_5.out).2.2 x7_2 p444 q444
            obtain rfl : ad437 = ad444 := (by injection e444)
            replace p444 := eq_true p444
            replace q444 := eq_true q444
            refine start_ (n := 12) (S := fun w' => w'.cell? ⟨gb426, 0, none⟩ = some (.slice A0_0 l0_0.length c0_0) ∧ w'.cell? ⟨gb426, 1, none⟩ = some (.int .i64 a0_1) ∧ w'.cell? ⟨gb426, 2, none⟩ = some (.int .i64 a0_2) ∧ w'.cell? (ad437.add (x7_2).toNat) = some (.int .i64 (rd x5_2 x7_2))) (ds := []) (bA 12 0) (by kernel_rfl) rfl rfl ⟨(blk_cell BK426.out 0).trans rfl, (blk_cell BK426.out 1).trans rfl, (blk_cell BK426.out 2).trans rfl, hx444_0⟩ (fun hHeld => ?_); refine with_tabW mortmainref06_Sorted.tab9 mortmainref06_Sorted.bits9 (fun HT_ HW_ => ?_)
            generalize w24.drew = w25 at HO_5 HO435 BK426 HB hx444_0 hHeld ⊢
            refine pure_ (i := 2) (N := some 41) (v := ?_) (a' := ?_) (bA 12 4) rfl rfl (an_ HT_.out) (fun _ _ _ h => h) (Or.inl ⟨by rfl, ?_⟩) ?_ ?_
            rotate_left
            ·intro w'
             go_simp
             with_reducible rfl
            rotate_left
            ·simp only [Act.put, q1, q2, q3, i64_w, i32_w]
             rfl
            refine pure_ (i := 3) (N := some 42) (v := ?_) (a' := ?_) (bA 12 12) rfl rfl (an_ HT_.out) (fun _ _ _ h => h) (Or.inl ⟨by rfl, ?_⟩) ?_ ?_
            rotate_left
            ·intro w'
             go_simp
             with_reducible rfl
            rotate_left
            ·simp only [Act.put, q1, q2, q3, i64_w, i32_w]
             rfl
            refine pure_ (i := 4) (N := some 43) (v := ?_) (a' := ?_) (bA 12 28) rfl rfl (an_ HT_.out) (fun _ _ _ h => h) (Or.inl ⟨by rfl, ?_⟩) ?_ ?_
            rotate_left
            ·intro w'
             go_simp
             with_reducible rfl
            rotate_left
            ·simp only [Act.put, q1, q2, q3, i64_w, i32_w]
             rfl
            refine take_ (i := 0) (N := some 39) (v := ?_) (a' := ?_) (bA 12 29) rfl rfl (tw_ HT_.out HW_.out) (fun _ _ _ h => h) (Or.inl ⟨by rfl, ?_⟩) hHeld ?_ ?_
            rotate_left
            ·rintro w' ⟨s0, s1, s2, s3⟩
             try simp only [Int.toNat_natCast] at s0 s1 s2 s3
             go_simp
             with_reducible rfl
            rotate_left
            ·simp only [Act.put, q1, q2, q3, i64_w, i32_w]
             rfl
            refine take_ (i := 5) (N := some 44) (v := ?_) (a' := ?_) (bA 12 61) rfl rfl (tw_ HT_.out HW_.out) (fun _ _ _ h => h) (Or.inl ⟨by rfl, ?_⟩) hHeld ?_ ?_
            rotate_left
            ·rintro w' ⟨s0, s1, s2, s3⟩
             try simp only [Int.toNat_natCast] at s0 s1 s2 s3
             go_simp
             with_reducible rfl
            rotate_left
            ·simp only [Act.put, q1, q2, q3, i64_w, i32_w]
             rfl
            refine one_ (i := 1) (N := some 40) (bA 12 63) rfl rfl (one_of HT_.out (by kernel_rfl)) (by decide) (fun K hK => ?_)
            refine goes_ Try.func57 (by kernel_rfl) rfl #[.agg #[.slice A0_0 l0_0.length c0_0, .int .i64 a0_1, .int .i64 a0_2]] (by rfl) rfl rfl mT ?_
            with_reducible refine (mortmainref06_Plain.calls k2 _ _ l0_0 a0_1 a0_2 t440 t443 _ ?side1 ?side2 A16.out).mono ?_
            (case side1 => repeat (first | exact (Kd.C_below HR0_0.out HB.out) | (with_reducible refine Kd.C_alloc ?_ _) | (with_reducible refine Kd.C_drewN ?_ _) | (with_reducible refine Kd.C_drew ?_)))
            (case side2 => exact HC0_0.out)
            rintro e w26 ⟨v441, rfl, ho0, hb⟩
            have HS3_ := (hb.cell (World.block_lt_of_cell? _ _ (hHeld.2.2.2))).trans (hHeld.2.2.2)
            refine ⟨_, rfl, ?_⟩
            have n0_ := Aside0.mk (Kd.R_below (rT HO_5.out) hb)
            have n1_ := Aside0.mk (Kd.R_elder' (rT HO435.out) (Kd.R_base ho0) hb)
            have n2_ := Aside0.mk (Kd.R_lower (Kd.R_new' ho0 (Kd.R_lt (rT HO435.out))) (below_size (bG GE426.out)))
            have n3_ := Aside0.mk (blk_below (g := gb426) (o := .cells #[.slice A0_0 l0_0.length c0_0, .int .i64 a0_1, .int .i64 a0_2] 37 (0, 0)) (kT BK426.out) hb)
            have n4_ := Aside0.mk (below_step (bG GE426.out) hb)
            clear HO_5
            clear HO435
            clear BK426
            clear HB
            have HO_5 := n0_
            have HO435 := n1_
            have HO442 := n2_
            have BK426 := n3_
            have HB := n4_
            clear n0_ n1_ n2_ n3_ n4_
            (try clear hb)
            (try clear hb2)
            (try clear hk)
            (try clear hi)
            (try clear ho0)
            obtain ⟨Ao27, co27, eo27⟩ := Kd.R_slice HO442.out
            (first | subst eo27 | (injection eo27 with f1_ f2_ f3_; have f4_ := f1_.symm; have f5_ := f3_.symm; clear f1_ f2_ f3_; subst f4_; subst f5_))
            refine hK.out _ _ ⟨(blk_cell BK426.out 0).trans rfl, (blk_cell BK426.out 1).trans rfl, (blk_cell BK426.out 2).trans rfl, HS3_⟩ (fun hHeld => ?_)
            clear hK K
            refine norm_ (a' := ?_) ?_ ?_
            rotate_left
            ·show Act.put _ (some 40) _ = _
             simp only [Act.put, q1, q2, q3, i64_w, i32_w]
             rfl
            refine one_ (i := 6) (N := some 45) (bA 12 127) rfl rfl (one_of HT_.out (by kernel_rfl)) (by decide) (fun K hK => ?_)
            refine goes_ Try.func56 (by kernel_rfl) rfl #[.agg #[.slice Ao27 t440.length co27, .int .i64 t443], .int .i64 (rd x5_2 x7_2)] (by rfl) rfl rfl mT ?_
            with_reducible refine (mortmainref03_Find.calls k2 _ _ t440 t443 (rd x5_2 x7_2) t445 t446 _ ?side1 ?side2 A19.out).mono ?_
            (case side1 => repeat (first | exact (Kd.R_reads' HO442.out).2.2 | (with_reducible refine Kd.C_alloc ?_ _) | (with_reducible refine Kd.C_drewN ?_ _) | (with_reducible refine Kd.C_drew ?_)))
            (case side2 => exact (Kd.R_reads' HO442.out).2.1)
            rintro e w28 ⟨rfl, hb⟩
            have HS3_ := (hb.cell (World.block_lt_of_cell? _ _ (hHeld.2.2.2))).trans (hHeld.2.2.2)
            refine ⟨_, rfl, ?_⟩
            have n0_ := Aside0.mk (Kd.R_below (rT HO_5.out) hb)
            have n1_ := Aside0.mk (Kd.R_below (rT HO435.out) hb)
            have n2_ := Aside0.mk (Kd.R_below (rT HO442.out) hb)
            have n3_ := Aside0.mk (blk_below (g := gb426) (o := .cells #[.slice A0_0 l0_0.length c0_0, .int .i64 a0_1, .int .i64 a0_2] 37 (0, 0)) (kT BK426.out) hb)
            have n4_ := Aside0.mk (below_step (bG GE426.out) hb)
            clear HO_5
            clear HO435
            clear HO442
            clear BK426
            clear HB
            have HO_5 := n0_
            have HO435 := n1_
            have HO442 := n2_
            have BK426 := n3_
            have HB := n4_
            clear n0_ n1_ n2_ n3_ n4_
            (try clear hb)
            (try clear hb2)
            (try clear hk)
            (try clear hi)
            refine hK.out _ _ ⟨(blk_cell BK426.out 0).trans rfl, (blk_cell BK426.out 1).trans rfl, (blk_cell BK426.out 2).trans rfl, HS3_⟩ (fun hHeld => ?_)
            clear hK K
            refine norm_ (a' := ?_) ?_ ?_
            rotate_left
            ·show Act.put _ (some 45) _ = _
             simp only [Act.put, q1, q2, q3, i64_w, i32_w]
             rfl
            refine pure_ (i := 7) (N := some 38) (v := ?_) (a' := ?_) (bA 12 255) rfl rfl (an_ HT_.out) (fun _ _ _ h => h) (Or.inl ⟨by rfl, ?_⟩) ?_ ?_
            rotate_left
            ·intro w'
             go_simp
             with_reducible rfl
            rotate_left
            ·simp only [Act.put, q1, q2, q3, i64_w, i32_w]
             rfl
            refine pure_ (i := 8) (N := some 46) (v := ?_) (a' := ?_) (bA 12 511) rfl rfl (an_ HT_.out) (fun _ _ _ h => h) (Or.inl ⟨by rfl, ?_⟩) ?_ ?_
            rotate_left
            ·intro w'
             go_simp
             with_reducible rfl
            rotate_left
            ·simp only [Act.put, q1, q2, q3, i64_w, i32_w]
             rfl
            refine pure_ (i := 9) (N := some 47) (v := ?_) (a' := ?_) (bA 12 1023) rfl rfl (an_ HT_.out) (fun _ _ _ h => h) (Or.inl ⟨by rfl, ?_⟩) ?_ ?_
            rotate_left
            ·intro w'
             go_simp
             with_reducible rfl
            rotate_left
            ·simp only [Act.put, q1, q2, q3, i64_w, i32_w]
             rfl
            refine pure_ (i := 10) (N := some 10) (v := ?_) (a' := ?_) (bA 12 2047) rfl rfl (an_ HT_.out) (fun _ _ _ h => h) (Or.inl ⟨by rfl, ?_⟩) ?_ ?_
            rotate_left
            ·intro w'
             go_simp
             with_reducible rfl
            rotate_left
            ·simp only [Act.put, q1, q2, q3, i64_w, i32_w]
             rfl
            refine pure_ (i := 11) (N := some 11) (v := ?_) (a' := ?_) (bA 12 4095) rfl rfl (an_ HT_.out) (fun _ _ _ h => h) (Or.inl ⟨by rfl, ?_⟩) ?_ ?_
            rotate_left
            ·intro w'
             go_simp
             with_reducible rfl
            rotate_left
            ·simp only [Act.put, q1, q2, q3, i64_w, i32_w]
             rfl
            refine done_ (done_of HT_.out (by kernel_rfl)) ?_
            have H := H'.out
            clear H'
            by_cases c20 : t438 < 0
            ·rw [if_pos c20] at H
             have c20b0 : decide (t438 < 0) = true := decide_eq_true c20
             clear c20
             have H' := Aside0.mk H
             clear H
             try go_wp2
             have n0_ := Aside0.mk (Kd.R_drew HO_5.out)
             have n1_ := Aside0.mk (Kd.R_drew HO435.out)
             have n2_ := Aside0.mk (Kd.R_drew HO442.out)
             have n3_ := Aside0.mk (blk_drew BK426.out)
             have n4_ := Aside0.mk (below_drew1 HB.out)
             clear HO_5
             clear HO435
             clear HO442
             clear BK426
             clear HB
             have HO_5 := n0_
             have HO435 := n1_
             have HO442 := n2_
             have BK426 := n3_
             have HB := n4_
             clear n0_ n1_ n2_ n3_ n4_
             refine start_ (n := 23) (S := fun w' => True) (ds := []) (bA 23 0) (by kernel_rfl) rfl rfl trivial (fun hHeld => ?_); refine with_tabW mortmainref06_Sorted.tab10 mortmainref06_Sorted.bits10 (fun HT_ HW_ => ?_)
             generalize w28.drew = w29 at HO_5 HO435 HO442 BK426 HB hHeld ⊢
             refine pure_ (i := 0) (N := some 48) (v := ?_) (a' := ?_) (bA 23 1) rfl rfl (an_ HT_.out) (fun _ _ _ h => h) (Or.inl ⟨by rfl, ?_⟩) ?_ ?_
             rotate_left
             ·intro w'
              go_simp
              with_reducible rfl
             rotate_left
             ·simp only [Act.put, q1, q2, q3, i64_w, i32_w]
              rfl
             refine pure_ (i := 1) (N := some 49) (v := ?_) (a' := ?_) (bA 23 3) rfl rfl (an_ HT_.out) (fun _ _ _ h => h) (Or.inl ⟨by rfl, ?_⟩) ?_ ?_
             rotate_left
             ·intro w'
              go_simp
              with_reducible rfl
             rotate_left
             ·simp only [Act.put, q1, q2, q3, i64_w, i32_w]
              rfl
             refine pure_ (i := 2) (N := some 50) (v := ?_) (a' := ?_) (bA 23 7) rfl rfl (an_ HT_.out) (fun _ _ _ h => h) (Or.inl ⟨by rfl, ?_⟩) ?_ ?_
             rotate_left
             ·intro w'
              go_simp
              with_reducible rfl
             rotate_left
             ·simp only [Act.put, q1, q2, q3, i64_w, i32_w]
              rfl
             refine pure_ (i := 3) (N := some 51) (v := undef) (a' := ?_) (bA 23 15) rfl rfl (an_ HT_.out) (fun _ _ _ h => h) (Or.inr ⟨by rfl, rfl⟩) ?_ ?_
             rotate_left
             ·simp only [Act.put, q1, q2, q3, i64_w, i32_w]
              rfl
             refine pure_ (i := 4) (N := some 52) (v := undef) (a' := ?_) (bA 23 31) rfl rfl (an_ HT_.out) (fun _ _ _ h => h) (Or.inr ⟨by rfl, rfl⟩) ?_ ?_
             rotate_left
             ·simp only [Act.put, q1, q2, q3, i64_w, i32_w]
              rfl
             refine pure_ (i := 5) (N := some 53) (v := ?_) (a' := ?_) (bA 23 63) rfl rfl (an_ HT_.out) (fun _ _ _ h => h) (Or.inl ⟨by rfl, ?_⟩) ?_ ?_
             rotate_left
             ·intro w'
              go_simp
              with_reducible rfl
             rotate_left
             ·simp only [Act.put, q1, q2, q3, i64_w, i32_w]
              rfl
             refine pure_ (i := 6) (N := some 54) (v := ?_) (a' := ?_) (bA 23 127) rfl rfl (an_ HT_.out) (fun _ _ _ h => h) (Or.inl ⟨by rfl, ?_⟩) ?_ ?_
             rotate_left
             ·intro w'
              go_simp
              with_reducible rfl
             rotate_left
             ·simp only [Act.put, q1, q2, q3, i64_w, i32_w]
              rfl
             refine pure_ (i := 7) (N := some 55) (v := undef) (a' := ?_) (bA 23 255) rfl rfl (an_ HT_.out) (fun _ _ _ h => h) (Or.inr ⟨by rfl, rfl⟩) ?_ ?_
             rotate_left
             ·simp only [Act.put, q1, q2, q3, i64_w, i32_w]
              rfl
             refine pure_ (i := 8) (N := some 56) (v := undef) (a' := ?_) (bA 23 511) rfl rfl (an_ HT_.out) (fun _ _ _ h => h) (Or.inr ⟨by rfl, rfl⟩) ?_ ?_
             rotate_left
             ·simp only [Act.put, q1, q2, q3, i64_w, i32_w]
              rfl
             refine pure_ (i := 9) (N := some 57) (v := undef) (a' := ?_) (bA 23 1023) rfl rfl (an_ HT_.out) (fun _ _ _ h => h) (Or.inr ⟨by rfl, rfl⟩) ?_ ?_
             rotate_left
             ·simp only [Act.put, q1, q2, q3, i64_w, i32_w]
              rfl
             refine pure_ (i := 10) (N := some 58) (v := undef) (a' := ?_) (bA 23 2047) rfl rfl (an_ HT_.out) (fun _ _ _ h => h) (Or.inr ⟨by rfl, rfl⟩) ?_ ?_
             rotate_left
             ·simp only [Act.put, q1, q2, q3, i64_w, i32_w]
              rfl
             refine pure_ (i := 11) (N := some 59) (v := undef) (a' := ?_) (bA 23 4095) rfl rfl (an_ HT_.out) (fun _ _ _ h => h) (Or.inr ⟨by rfl, rfl⟩) ?_ ?_
             rotate_left
             ·simp only [Act.put, q1, q2, q3, i64_w, i32_w]
              rfl
             refine pure_ (i := 12) (N := some 60) (v := undef) (a' := ?_) (bA 23 8191) rfl rfl (an_ HT_.out) (fun _ _ _ h => h) (Or.inr ⟨by rfl, rfl⟩) ?_ ?_
             rotate_left
             ·simp only [Act.put, q1, q2, q3, i64_w, i32_w]
              rfl
             refine pure_ (i := 13) (N := some 61) (v := undef) (a' := ?_) (bA 23 16383) rfl rfl (an_ HT_.out) (fun _ _ _ h => h) (Or.inr ⟨by rfl, rfl⟩) ?_ ?_
             rotate_left
             ·simp only [Act.put, q1, q2, q3, i64_w, i32_w]
              rfl
             refine pure_ (i := 14) (N := some 62) (v := undef) (a' := ?_) (bA 23 32767) rfl rfl (an_ HT_.out) (fun _ _ _ h => h) (Or.inr ⟨by rfl, rfl⟩) ?_ ?_
             rotate_left
             ·simp only [Act.put, q1, q2, q3, i64_w, i32_w]
              rfl
             refine pure_ (i := 15) (N := some 63) (v := undef) (a' := ?_) (bA 23 65535) rfl rfl (an_ HT_.out) (fun _ _ _ h => h) (Or.inr ⟨by rfl, rfl⟩) ?_ ?_
             rotate_left
             ·simp only [Act.put, q1, q2, q3, i64_w, i32_w]
              rfl
             refine pure_ (i := 16) (N := some 64) (v := undef) (a' := ?_) (bA 23 131071) rfl rfl (an_ HT_.out) (fun _ _ _ h => h) (Or.inr ⟨by rfl, rfl⟩) ?_ ?_
             rotate_left
             ·simp only [Act.put, q1, q2, q3, i64_w, i32_w]
              rfl
             refine pure_ (i := 17) (N := some 65) (v := undef) (a' := ?_) (bA 23 262143) rfl rfl (an_ HT_.out) (fun _ _ _ h => h) (Or.inr ⟨by rfl, rfl⟩) ?_ ?_
             rotate_left
             ·simp only [Act.put, q1, q2, q3, i64_w, i32_w]
              rfl
             refine pure_ (i := 18) (N := some 66) (v := undef) (a' := ?_) (bA 23 524287) rfl rfl (an_ HT_.out) (fun _ _ _ h => h) (Or.inr ⟨by rfl, rfl⟩) ?_ ?_
             rotate_left
             ·simp only [Act.put, q1, q2, q3, i64_w, i32_w]
              rfl
             refine pure_ (i := 19) (N := some 67) (v := undef) (a' := ?_) (bA 23 1048575) rfl rfl (an_ HT_.out) (fun _ _ _ h => h) (Or.inr ⟨by rfl, rfl⟩) ?_ ?_
             rotate_left
             ·simp only [Act.put, q1, q2, q3, i64_w, i32_w]
              rfl
             refine pure_ (i := 20) (N := some 68) (v := undef) (a' := ?_) (bA 23 2097151) rfl rfl (an_ HT_.out) (fun _ _ _ h => h) (Or.inr ⟨by rfl, rfl⟩) ?_ ?_
             rotate_left
             ·simp only [Act.put, q1, q2, q3, i64_w, i32_w]
              rfl
             refine pure_ (i := 21) (N := some 69) (v := undef) (a' := ?_) (bA 23 4194303) rfl rfl (an_ HT_.out) (fun _ _ _ h => h) (Or.inr ⟨by rfl, rfl⟩) ?_ ?_
             rotate_left
             ·simp only [Act.put, q1, q2, q3, i64_w, i32_w]
              rfl
             refine pure_ (i := 22) (N := some 70) (v := ?_) (a' := ?_) (bA 23 8388607) rfl rfl (an_ HT_.out) (fun _ _ _ h => h) (Or.inl ⟨by rfl, ?_⟩) ?_ ?_
             rotate_left
             ·intro w'
              go_simp
              with_reducible rfl
             rotate_left
             ·simp only [Act.put, q1, q2, q3, i64_w, i32_w]
              rfl
             refine done_ (done_of HT_.out (by kernel_rfl)) ?_
             try go_wp2
             (try simp only [← hl5_2])
             go_roundg k2
             case measure => have := HK1.out; have := HK2.out; omega
             case rel => exact ⟨(x5_2), (wrap64 (x6_1 + 1)), (by first | rfl | (simp; done) | (simp [*]; done)), H', ⟨by have := HK1.out; have := HK2.out; omega⟩, ⟨by (try simp only [hl5_2]); (with_reducible repeat (first | apply Kd.R_alloc | apply Kd.R_drewN | apply Kd.R_drew)); exact HO_5.out⟩, ⟨by (try simp only [hl5_2]); (with_reducible repeat (first | refine blk_drewN ?_ _ | refine blk_drew ?_ | refine blk_alloc ?_ _)); exact BK426.out⟩, ⟨by repeat (first | (with_reducible first | exact HB.out | apply below_alloc | apply pw_below_drewN | apply below_drew1 | refine below_set ?_ GE426.out) | exact HB.out)⟩⟩
            ·rw [if_neg c20] at H
             have c20b0 : decide (t438 < 0) = false := decide_eq_false c20
             clear c20
             by_cases c30 : t445 < 0
             ·rw [if_pos c30] at H
              have c30b0 : decide (t445 < 0) = true := decide_eq_true c30
              clear c30
              have H' := Aside0.mk H
              clear H
              try go_wp2
              have n0_ := Aside0.mk (Kd.R_drew HO_5.out)
              have n1_ := Aside0.mk (Kd.R_drew HO435.out)
              have n2_ := Aside0.mk (Kd.R_drew HO442.out)
              have n3_ := Aside0.mk (blk_drew BK426.out)
              have n4_ := Aside0.mk (below_drew1 HB.out)
              clear HO_5
              clear HO435
              clear HO442
              clear BK426
              clear HB
              have HO_5 := n0_
              have HO435 := n1_
              have HO442 := n2_
              have BK426 := n3_
              have HB := n4_
              clear n0_ n1_ n2_ n3_ n4_
              refine start_ (n := 23) (S := fun w' => True) (ds := []) (bA 23 0) (by kernel_rfl) rfl rfl trivial (fun hHeld => ?_); refine with_tabW mortmainref06_Sorted.tab10 mortmainref06_Sorted.bits10 (fun HT_ HW_ => ?_)
              generalize w28.drew = w39 at HO_5 HO435 HO442 BK426 HB hHeld ⊢
              refine pure_ (i := 0) (N := some 48) (v := ?_) (a' := ?_) (bA 23 1) rfl rfl (an_ HT_.out) (fun _ _ _ h => h) (Or.inl ⟨by rfl, ?_⟩) ?_ ?_
              rotate_left
              ·intro w'
               go_simp
               with_reducible rfl
              rotate_left
              ·simp only [Act.put, q1, q2, q3, i64_w, i32_w]
               rfl
              refine pure_ (i := 1) (N := some 49) (v := ?_) (a' := ?_) (bA 23 3) rfl rfl (an_ HT_.out) (fun _ _ _ h => h) (Or.inl ⟨by rfl, ?_⟩) ?_ ?_
              rotate_left
              ·intro w'
               go_simp
               with_reducible rfl
              rotate_left
              ·simp only [Act.put, q1, q2, q3, i64_w, i32_w]
               rfl
              refine pure_ (i := 2) (N := some 50) (v := ?_) (a' := ?_) (bA 23 7) rfl rfl (an_ HT_.out) (fun _ _ _ h => h) (Or.inl ⟨by rfl, ?_⟩) ?_ ?_
              rotate_left
              ·intro w'
               go_simp
               with_reducible rfl
              rotate_left
              ·simp only [Act.put, q1, q2, q3, i64_w, i32_w]
               rfl
              refine pure_ (i := 3) (N := some 51) (v := ?_) (a' := ?_) (bA 23 15) rfl rfl (an_ HT_.out) (fun _ _ _ h => h) (Or.inl ⟨by rfl, ?_⟩) ?_ ?_
              rotate_left
              ·intro w'
               go_simp
               with_reducible rfl
              rotate_left
              ·simp only [Act.put, q1, q2, q3, i64_w, i32_w]
               rfl
              refine pure_ (i := 4) (N := some 52) (v := ?_) (a' := ?_) (bA 23 31) rfl rfl (an_ HT_.out) (fun _ _ _ h => h) (Or.inl ⟨by rfl, ?_⟩) ?_ ?_
              rotate_left
              ·intro w'
               go_simp
               with_reducible rfl
              rotate_left
              ·simp only [Act.put, q1, q2, q3, i64_w, i32_w]
               rfl
              refine pure_ (i := 5) (N := some 53) (v := ?_) (a' := ?_) (bA 23 63) rfl rfl (an_ HT_.out) (fun _ _ _ h => h) (Or.inl ⟨by rfl, ?_⟩) ?_ ?_
              rotate_left
              ·intro w'
               go_simp
               with_reducible rfl
              rotate_left
              ·simp only [Act.put, q1, q2, q3, i64_w, i32_w]
               rfl
              refine pure_ (i := 6) (N := some 54) (v := ?_) (a' := ?_) (bA 23 127) rfl rfl (an_ HT_.out) (fun _ _ _ h => h) (Or.inl ⟨by rfl, ?_⟩) ?_ ?_
              rotate_left
              ·intro w'
               go_simp
               with_reducible rfl
              rotate_left
              ·simp only [Act.put, q1, q2, q3, i64_w, i32_w]
               rfl
              refine pure_ (i := 7) (N := some 55) (v := undef) (a' := ?_) (bA 23 255) rfl rfl (an_ HT_.out) (fun _ _ _ h => h) (Or.inr ⟨by rfl, rfl⟩) ?_ ?_
              rotate_left
              ·simp only [Act.put, q1, q2, q3, i64_w, i32_w]
               rfl
              refine pure_ (i := 8) (N := some 56) (v := undef) (a' := ?_) (bA 23 511) rfl rfl (an_ HT_.out) (fun _ _ _ h => h) (Or.inr ⟨by rfl, rfl⟩) ?_ ?_
              rotate_left
              ·simp only [Act.put, q1, q2, q3, i64_w, i32_w]
               rfl
              refine pure_ (i := 9) (N := some 57) (v := undef) (a' := ?_) (bA 23 1023) rfl rfl (an_ HT_.out) (fun _ _ _ h => h) (Or.inr ⟨by rfl, rfl⟩) ?_ ?_
              rotate_left
              ·simp only [Act.put, q1, q2, q3, i64_w, i32_w]
               rfl
              refine pure_ (i := 10) (N := some 58) (v := undef) (a' := ?_) (bA 23 2047) rfl rfl (an_ HT_.out) (fun _ _ _ h => h) (Or.inr ⟨by rfl, rfl⟩) ?_ ?_
              rotate_left
              ·simp only [Act.put, q1, q2, q3, i64_w, i32_w]
               rfl
              refine pure_ (i := 11) (N := some 59) (v := undef) (a' := ?_) (bA 23 4095) rfl rfl (an_ HT_.out) (fun _ _ _ h => h) (Or.inr ⟨by rfl, rfl⟩) ?_ ?_
              rotate_left
              ·simp only [Act.put, q1, q2, q3, i64_w, i32_w]
               rfl
              refine pure_ (i := 12) (N := some 60) (v := undef) (a' := ?_) (bA 23 8191) rfl rfl (an_ HT_.out) (fun _ _ _ h => h) (Or.inr ⟨by rfl, rfl⟩) ?_ ?_
              rotate_left
              ·simp only [Act.put, q1, q2, q3, i64_w, i32_w]
               rfl
              refine pure_ (i := 13) (N := some 61) (v := undef) (a' := ?_) (bA 23 16383) rfl rfl (an_ HT_.out) (fun _ _ _ h => h) (Or.inr ⟨by rfl, rfl⟩) ?_ ?_
              rotate_left
              ·simp only [Act.put, q1, q2, q3, i64_w, i32_w]
               rfl
              refine pure_ (i := 14) (N := some 62) (v := undef) (a' := ?_) (bA 23 32767) rfl rfl (an_ HT_.out) (fun _ _ _ h => h) (Or.inr ⟨by rfl, rfl⟩) ?_ ?_
              rotate_left
              ·simp only [Act.put, q1, q2, q3, i64_w, i32_w]
               rfl
              refine pure_ (i := 15) (N := some 63) (v := undef) (a' := ?_) (bA 23 65535) rfl rfl (an_ HT_.out) (fun _ _ _ h => h) (Or.inr ⟨by rfl, rfl⟩) ?_ ?_
              rotate_left
              ·simp only [Act.put, q1, q2, q3, i64_w, i32_w]
               rfl
              refine pure_ (i := 16) (N := some 64) (v := undef) (a' := ?_) (bA 23 131071) rfl rfl (an_ HT_.out) (fun _ _ _ h => h) (Or.inr ⟨by rfl, rfl⟩) ?_ ?_
              rotate_left
              ·simp only [Act.put, q1, q2, q3, i64_w, i32_w]
               rfl
              refine pure_ (i := 17) (N := some 65) (v := undef) (a' := ?_) (bA 23 262143) rfl rfl (an_ HT_.out) (fun _ _ _ h => h) (Or.inr ⟨by rfl, rfl⟩) ?_ ?_
              rotate_left
              ·simp only [Act.put, q1, q2, q3, i64_w, i32_w]
               rfl
              refine pure_ (i := 18) (N := some 66) (v := undef) (a' := ?_) (bA 23 524287) rfl rfl (an_ HT_.out) (fun _ _ _ h => h) (Or.inr ⟨by rfl, rfl⟩) ?_ ?_
              rotate_left
              ·simp only [Act.put, q1, q2, q3, i64_w, i32_w]
               rfl
              refine pure_ (i := 19) (N := some 67) (v := undef) (a' := ?_) (bA 23 1048575) rfl rfl (an_ HT_.out) (fun _ _ _ h => h) (Or.inr ⟨by rfl, rfl⟩) ?_ ?_
              rotate_left
              ·simp only [Act.put, q1, q2, q3, i64_w, i32_w]
               rfl
              refine pure_ (i := 20) (N := some 68) (v := undef) (a' := ?_) (bA 23 2097151) rfl rfl (an_ HT_.out) (fun _ _ _ h => h) (Or.inr ⟨by rfl, rfl⟩) ?_ ?_
              rotate_left
              ·simp only [Act.put, q1, q2, q3, i64_w, i32_w]
               rfl
              refine pure_ (i := 21) (N := some 69) (v := undef) (a' := ?_) (bA 23 4194303) rfl rfl (an_ HT_.out) (fun _ _ _ h => h) (Or.inr ⟨by rfl, rfl⟩) ?_ ?_
              rotate_left
              ·simp only [Act.put, q1, q2, q3, i64_w, i32_w]
               rfl
              refine pure_ (i := 22) (N := some 70) (v := ?_) (a' := ?_) (bA 23 8388607) rfl rfl (an_ HT_.out) (fun _ _ _ h => h) (Or.inl ⟨by rfl, ?_⟩) ?_ ?_
              rotate_left
              ·intro w'
               go_simp
               with_reducible rfl
              rotate_left
              ·simp only [Act.put, q1, q2, q3, i64_w, i32_w]
               rfl
              refine done_ (done_of HT_.out (by kernel_rfl)) ?_
              try go_wp2
              (try simp only [← hl5_2])
              go_roundg k2
              case measure => have := HK1.out; have := HK2.out; omega
              case rel => exact ⟨(x5_2), (wrap64 (x6_1 + 1)), (by first | rfl | (simp; done) | (simp [*]; done)), H', ⟨by have := HK1.out; have := HK2.out; omega⟩, ⟨by (try simp only [hl5_2]); (with_reducible repeat (first | apply Kd.R_alloc | apply Kd.R_drewN | apply Kd.R_drew)); exact HO_5.out⟩, ⟨by (try simp only [hl5_2]); (with_reducible repeat (first | refine blk_drewN ?_ _ | refine blk_drew ?_ | refine blk_alloc ?_ _)); exact BK426.out⟩, ⟨by repeat (first | (with_reducible first | exact HB.out | apply below_alloc | apply pw_below_drewN | apply below_drew1 | refine below_set ?_ GE426.out) | exact HB.out)⟩⟩
             ·rw [if_neg c30] at H
              have c30b0 : decide (t445 < 0) = false := decide_eq_false c30
              clear c30
              by_cases c40 : 0 ≤ t438
              ·rw [if_pos c40] at H
               have c40b0 : decide (0 ≤ t438) = true := decide_eq_true c40
               clear c40
               by_cases c41 : t438 < (l0_0.length : Int)
               ·rw [if_pos c41] at H
                have c41b0 : decide (t438 < (l0_0.length : Int)) = true := decide_eq_true c41
                clear c41
                by_cases c42 : 0 ≤ t445
                ·rw [if_pos c42] at H
                 have c42b0 : decide (0 ≤ t445) = true := decide_eq_true c42
                 clear c42
                 by_cases c43 : t445 < (l0_0.length : Int)
                 ·rw [if_pos c43] at H
                  have c43b0 : decide (t445 < (l0_0.length : Int)) = true := decide_eq_true c43
                  clear c43
                  have H' := Aside0.mk H
                  clear H
                  try go_wp2
                  have n0_ := Aside0.mk (Kd.R_drew HO_5.out)
                  have n1_ := Aside0.mk (Kd.R_drew HO435.out)
                  have n2_ := Aside0.mk (Kd.R_drew HO442.out)
                  have n3_ := Aside0.mk (blk_drew BK426.out)
                  have n4_ := Aside0.mk (below_drew1 HB.out)
                  clear HO_5
                  clear HO435
                  clear HO442
                  clear BK426
                  clear HB
                  have HO_5 := n0_
                  have HO435 := n1_
                  have HO442 := n2_
                  have BK426 := n3_
                  have HB := n4_
                  clear n0_ n1_ n2_ n3_ n4_
                  have p447 : 0 ≤ (t438 : Int) := oT
                  have q447 : t438 < (l0_0.length : Int) := oT
                  obtain ⟨ad447, A447_7, c447_7, e447, hx447_0, hx447_1, hx447_2, hx447_3, hx447_4, hx447_5, hx447_6, hx447_7, hl447_7, hi447_7⟩ := at_T84 HR0_0.out t438 p447 q447
                  have hw447_7 := hx447_7
                  have hw447_6 := hx447_6
                  have hw447_5 := hx447_5
                  have hw447_4 := hx447_4
                  have hw447_3 := hx447_3
                  have hw447_2 := hx447_2
                  have hw447_1 := hx447_1
                  have hw447_0 := hx447_0
                  cases e447
                  replace hx447_0 := cT HB.out hx447_0
                  replace hx447_1 := cT HB.out hx447_1
                  replace hx447_2 := cT HB.out hx447_2
                  replace hx447_3 := cT HB.out hx447_3
                  replace hx447_4 := cT HB.out hx447_4
                  replace hx447_5 := cT HB.out hx447_5
                  replace hx447_6 := cT HB.out hx447_6
                  replace hx447_7 := cT HB.out hx447_7
                  have HR447_7 := Aside0.mk hi447_7
                  have HC447_7 := Aside0.mk hl447_7
                  clear hi447_7 hl447_7
                  replace p447 := eq_true p447
                  replace q447 := eq_true q447
                  have p448 : 0 ≤ (t445 : Int) := oT
                  have q448 : t445 < (l0_0.length : Int) := oT
                  obtain ⟨ad448, A448_7, c448_7, e448, hx448_0, hx448_1, hx448_2, hx448_3, hx448_4, hx448_5, hx448_6, hx448_7, hl448_7, hi448_7⟩ := at_T84 HR0_0.out t445 p448 q448
                  have hw448_7 := hx448_7
                  have hw448_6 := hx448_6
                  have hw448_5 := hx448_5
                  have hw448_4 := hx448_4
                  have hw448_3 := hx448_3
                  have hw448_2 := hx448_2
                  have hw448_1 := hx448_1
                  have hw448_0 := hx448_0
                  obtain rfl : ad447 = ad448 := (by injection e448)
                  replace hx448_0 := cT HB.out hx448_0
                  replace hx448_1 := cT HB.out hx448_1
                  replace hx448_2 := cT HB.out hx448_2
                  replace hx448_3 := cT HB.out hx448_3
                  replace hx448_4 := cT HB.out hx448_4
                  replace hx448_5 := cT HB.out hx448_5
                  replace hx448_6 := cT HB.out hx448_6
                  replace hx448_7 := cT HB.out hx448_7
                  have HR448_7 := Aside0.mk hi448_7
                  have HC448_7 := Aside0.mk hl448_7
                  clear hi448_7 hl448_7
                  replace p448 := eq_true p448
                  replace q448 := eq_true q448
                  refine start_ (n := 23) (S := fun w' => w'.cell? ⟨gb426, 0, none⟩ = some (.slice (some ad447) l0_0.length c0_0) ∧ w'.cell? ⟨gb426, 1, none⟩ = some (.int .i64 a0_1) ∧ w'.cell? ⟨gb426, 2, none⟩ = some (.int .i64 a0_2) ∧ w'.cell? (ad447.add ((t438).toNat * 8)) = some (.int .i64 ((rd_T84 l0_0 t438).f0)) ∧ w'.cell? ⟨(ad447.add ((t438).toNat * 8)).block, (ad447.add ((t438).toNat * 8)).off + 1, none⟩ = some (.int .i64 ((rd_T84 l0_0 t438).f1)) ∧ w'.cell? ⟨(ad447.add ((t438).toNat * 8)).block, (ad447.add ((t438).toNat * 8)).off + 2, none⟩ = some (.int .i64 ((rd_T84 l0_0 t438).f2.f0)) ∧ w'.cell? ⟨(ad447.add ((t438).toNat * 8)).block, (ad447.add ((t438).toNat * 8)).off + 3, none⟩ = some (.int .i64 ((rd_T84 l0_0 t438).f2.f1)) ∧ w'.cell? ⟨(ad447.add ((t438).toNat * 8)).block, (ad447.add ((t438).toNat * 8)).off + 4, none⟩ = some (.int .i64 ((rd_T84 l0_0 t438).f2.f2)) ∧ w'.cell? ⟨(ad447.add ((t438).toNat * 8)).block, (ad447.add ((t438).toNat * 8)).off + 5, none⟩ = some (.int .i64 ((rd_T84 l0_0 t438).f2.f3)) ∧ w'.cell? ⟨(ad447.add ((t438).toNat * 8)).block, (ad447.add ((t438).toNat * 8)).off + 6, none⟩ = some (.bool ((rd_T84 l0_0 t438).f2.f4)) ∧ w'.cell? ⟨(ad447.add ((t438).toNat * 8)).block, (ad447.add ((t438).toNat * 8)).off + 7, none⟩ = some (.slice A447_7 ((rd_T84 l0_0 t438).f2.f5).length c447_7) ∧ w'.cell? (ad447.add ((t445).toNat * 8)) = some (.int .i64 ((rd_T84 l0_0 t445).f0)) ∧ w'.cell? ⟨(ad447.add ((t445).toNat * 8)).block, (ad447.add ((t445).toNat * 8)).off + 1, none⟩ = some (.int .i64 ((rd_T84 l0_0 t445).f1)) ∧ w'.cell? ⟨(ad447.add ((t445).toNat * 8)).block, (ad447.add ((t445).toNat * 8)).off + 2, none⟩ = some (.int .i64 ((rd_T84 l0_0 t445).f2.f0)) ∧ w'.cell? ⟨(ad447.add ((t445).toNat * 8)).block, (ad447.add ((t445).toNat * 8)).off + 3, none⟩ = some (.int .i64 ((rd_T84 l0_0 t445).f2.f1)) ∧ w'.cell? ⟨(ad447.add ((t445).toNat * 8)).block, (ad447.add ((t445).toNat * 8)).off + 4, none⟩ = some (.int .i64 ((rd_T84 l0_0 t445).f2.f2)) ∧ w'.cell? ⟨(ad447.add ((t445).toNat * 8)).block, (ad447.add ((t445).toNat * 8)).off + 5, none⟩ = some (.int .i64 ((rd_T84 l0_0 t445).f2.f3)) ∧ w'.cell? ⟨(ad447.add ((t445).toNat * 8)).block, (ad447.add ((t445).toNat * 8)).off + 6, none⟩ = some (.bool ((rd_T84 l0_0 t445).f2.f4)) ∧ w'.cell? ⟨(ad447.add ((t445).toNat * 8)).block, (ad447.add ((t445).toNat * 8)).off + 7, none⟩ = some (.slice A448_7 ((rd_T84 l0_0 t445).f2.f5).length c448_7)) (ds := []) (bA 23 0) (by kernel_rfl) rfl rfl ⟨(blk_cell BK426.out 0).trans rfl, (blk_cell BK426.out 1).trans rfl, (blk_cell BK426.out 2).trans rfl, (cT HB.out hw447_0), (cT HB.out hw447_1), (cT HB.out hw447_2), (cT HB.out hw447_3), (cT HB.out hw447_4), (cT HB.out hw447_5), (cT HB.out hw447_6), (cT HB.out hw447_7), (cT HB.out hw448_0), (cT HB.out hw448_1), (cT HB.out hw448_2), (cT HB.out hw448_3), (cT HB.out hw448_4), (cT HB.out hw448_5), (cT HB.out hw448_6), (cT HB.out hw448_7)⟩ (fun hHeld => ?_); refine with_tabW mortmainref06_Sorted.tab10 mortmainref06_Sorted.bits10 (fun HT_ HW_ => ?_)
                  generalize w28.drew = w53 at HO_5 HO435 HO442 BK426 HB HR447_7 HR448_7 hx447_0 hx447_1 hx447_2 hx447_3 hx447_4 hx447_5 hx447_6 hx447_7 hx448_0 hx448_1 hx448_2 hx448_3 hx448_4 hx448_5 hx448_6 hx448_7 hHeld ⊢
                  refine pure_ (i := 0) (N := some 48) (v := ?_) (a' := ?_) (bA 23 1) rfl rfl (an_ HT_.out) (fun _ _ _ h => h) (Or.inl ⟨by rfl, ?_⟩) ?_ ?_
                  rotate_left
                  ·intro w'
                   go_simp
                   with_reducible rfl
                  rotate_left
                  ·simp only [Act.put, q1, q2, q3, i64_w, i32_w]
                   rfl
                  refine pure_ (i := 1) (N := some 49) (v := ?_) (a' := ?_) (bA 23 3) rfl rfl (an_ HT_.out) (fun _ _ _ h => h) (Or.inl ⟨by rfl, ?_⟩) ?_ ?_
                  rotate_left
                  ·intro w'
                   go_simp
                   with_reducible rfl
                  rotate_left
                  ·simp only [Act.put, q1, q2, q3, i64_w, i32_w]
                   rfl
                  refine pure_ (i := 2) (N := some 50) (v := ?_) (a' := ?_) (bA 23 7) rfl rfl (an_ HT_.out) (fun _ _ _ h => h) (Or.inl ⟨by rfl, ?_⟩) ?_ ?_
                  rotate_left
                  ·intro w'
                   go_simp
                   with_reducible rfl
                  rotate_left
                  ·simp only [Act.put, q1, q2, q3, i64_w, i32_w]
                   rfl
                  refine pure_ (i := 3) (N := some 51) (v := ?_) (a' := ?_) (bA 23 15) rfl rfl (an_ HT_.out) (fun _ _ _ h => h) (Or.inl ⟨by rfl, ?_⟩) ?_ ?_
                  rotate_left
                  ·intro w'
                   go_simp
                   with_reducible rfl
                  rotate_left
                  ·simp only [Act.put, q1, q2, q3, i64_w, i32_w]
                   rfl
                  refine pure_ (i := 4) (N := some 52) (v := ?_) (a' := ?_) (bA 23 31) rfl rfl (an_ HT_.out) (fun _ _ _ h => h) (Or.inl ⟨by rfl, ?_⟩) ?_ ?_
                  rotate_left
                  ·intro w'
                   go_simp
                   with_reducible rfl
                  rotate_left
                  ·simp only [Act.put, q1, q2, q3, i64_w, i32_w]
                   rfl
                  refine pure_ (i := 5) (N := some 53) (v := ?_) (a' := ?_) (bA 23 63) rfl rfl (an_ HT_.out) (fun _ _ _ h => h) (Or.inl ⟨by rfl, ?_⟩) ?_ ?_
                  rotate_left
                  ·intro w'
                   go_simp
                   with_reducible rfl
                  rotate_left
                  ·simp only [Act.put, q1, q2, q3, i64_w, i32_w]
                   rfl
                  refine pure_ (i := 6) (N := some 54) (v := ?_) (a' := ?_) (bA 23 127) rfl rfl (an_ HT_.out) (fun _ _ _ h => h) (Or.inl ⟨by rfl, ?_⟩) ?_ ?_
                  rotate_left
                  ·intro w'
                   go_simp
                   with_reducible rfl
                  rotate_left
                  ·simp only [Act.put, q1, q2, q3, i64_w, i32_w]
                   rfl
                  refine pure_ (i := 7) (N := some 55) (v := ?_) (a' := ?_) (bA 23 255) rfl rfl (an_ HT_.out) (fun _ _ _ h => h) (Or.inl ⟨by rfl, ?_⟩) ?_ ?_
                  rotate_left
                  ·intro w'
                   go_simp
                   with_reducible rfl
                  rotate_left
                  ·simp only [Act.put, q1, q2, q3, i64_w, i32_w]
                   rfl
                  refine pure_ (i := 9) (N := some 57) (v := ?_) (a' := ?_) (bA 23 767) rfl rfl (an_ HT_.out) (fun _ _ _ h => h) (Or.inl ⟨by rfl, ?_⟩) ?_ ?_
                  rotate_left
                  ·intro w'
                   go_simp
                   with_reducible rfl
                  rotate_left
                  ·simp only [Act.put, q1, q2, q3, i64_w, i32_w]
                   rfl
                  refine pure_ (i := 14) (N := some 62) (v := ?_) (a' := ?_) (bA 23 17151) rfl rfl (an_ HT_.out) (fun _ _ _ h => h) (Or.inl ⟨by rfl, ?_⟩) ?_ ?_
                  rotate_left
                  ·intro w'
                   go_simp
                   with_reducible rfl
                  rotate_left
                  ·simp only [Act.put, q1, q2, q3, i64_w, i32_w]
                   rfl
                  refine pure_ (i := 16) (N := some 64) (v := ?_) (a' := ?_) (bA 23 82687) rfl rfl (an_ HT_.out) (fun _ _ _ h => h) (Or.inl ⟨by rfl, ?_⟩) ?_ ?_
                  rotate_left
                  ·intro w'
                   go_simp
                   with_reducible rfl
                  rotate_left
                  ·simp only [Act.put, q1, q2, q3, i64_w, i32_w]
                   rfl
                  refine take_ (i := 8) (N := some 56) (v := ?_) (a' := ?_) (bA 23 82943) rfl rfl (tw_ HT_.out HW_.out) (fun _ _ _ h => h) (Or.inl ⟨by rfl, ?_⟩) hHeld ?_ ?_
                  rotate_left
                  ·rintro w' ⟨s0, s1, s2, s3, s4, s5, s6, s7, s8, s9, s10, s11, s12, s13, s14, s15, s16, s17, s18⟩
                   try simp only [Int.toNat_natCast] at s0 s1 s2 s3 s4 s5 s6 s7 s8 s9 s10 s11 s12 s13 s14 s15 s16 s17 s18
                   go_simp
                   with_reducible rfl
                  rotate_left
                  ·simp only [Act.put, q1, q2, q3, i64_w, i32_w]
                   rfl
                  refine pure_ (i := 10) (N := some 58) (v := ?_) (a' := ?_) (bA 23 83967) rfl rfl (an_ HT_.out) (fun _ _ _ h => h) (Or.inl ⟨by rfl, ?_⟩) ?_ ?_
                  rotate_left
                  ·intro w'
                   go_simp
                   with_reducible rfl
                  rotate_left
                  ·simp only [Act.put, q1, q2, q3, i64_w, i32_w]
                   rfl
                  refine pure_ (i := 11) (N := some 59) (v := ?_) (a' := ?_) (bA 23 86015) rfl rfl (an_ HT_.out) (fun _ _ _ h => h) (Or.inl ⟨by rfl, ?_⟩) ?_ ?_
                  rotate_left
                  ·intro w'
                   go_simp
                   with_reducible rfl
                  rotate_left
                  ·simp only [Act.put, q1, q2, q3, i64_w, i32_w]
                   rfl
                  refine pure_ (i := 12) (N := some 60) (v := ?_) (a' := ?_) (bA 23 90111) rfl rfl (an_ HT_.out) (fun _ _ _ h => h) (Or.inl ⟨by rfl, ?_⟩) ?_ ?_
                  rotate_left
                  ·intro w'
                   go_simp
                   with_reducible rfl
                  rotate_left
                  ·simp only [Act.put, q1, q2, q3, i64_w, i32_w]
                   rfl
                  refine take_ (i := 13) (N := some 61) (v := ?_) (a' := ?_) (bA 23 98303) rfl rfl (tw_ HT_.out HW_.out) (fun _ _ _ h => h) (Or.inl ⟨by rfl, ?_⟩) hHeld ?_ ?_
                  rotate_left
                  ·rintro w' ⟨s0, s1, s2, s3, s4, s5, s6, s7, s8, s9, s10, s11, s12, s13, s14, s15, s16, s17, s18⟩
                   try simp only [Int.toNat_natCast] at s0 s1 s2 s3 s4 s5 s6 s7 s8 s9 s10 s11 s12 s13 s14 s15 s16 s17 s18
                   go_simp
                   with_reducible rfl
                  rotate_left
                  ·simp only [Act.put, q1, q2, q3, i64_w, i32_w]
                   rfl
                  refine take_ (i := 15) (N := some 63) (v := ?_) (a' := ?_) (bA 23 131071) rfl rfl (tw_ HT_.out HW_.out) (fun _ _ _ h => h) (Or.inl ⟨by rfl, ?_⟩) hHeld ?_ ?_
                  rotate_left
                  ·rintro w' ⟨s0, s1, s2, s3, s4, s5, s6, s7, s8, s9, s10, s11, s12, s13, s14, s15, s16, s17, s18⟩
                   try simp only [Int.toNat_natCast] at s0 s1 s2 s3 s4 s5 s6 s7 s8 s9 s10 s11 s12 s13 s14 s15 s16 s17 s18
                   go_simp
                   with_reducible rfl
                  rotate_left
                  ·simp only [Act.put, q1, q2, q3, i64_w, i32_w]
                   rfl
                  refine pure_ (i := 17) (N := some 65) (v := ?_) (a' := ?_) (bA 23 262143) rfl rfl (an_ HT_.out) (fun _ _ _ h => h) (Or.inl ⟨by rfl, ?_⟩) ?_ ?_
                  rotate_left
                  ·intro w'
                   go_simp
                   with_reducible rfl
                  rotate_left
                  ·simp only [Act.put, q1, q2, q3, i64_w, i32_w]
                   rfl
                  refine pure_ (i := 18) (N := some 66) (v := ?_) (a' := ?_) (bA 23 524287) rfl rfl (an_ HT_.out) (fun _ _ _ h => h) (Or.inl ⟨by rfl, ?_⟩) ?_ ?_
                  rotate_left
                  ·intro w'
                   go_simp
                   with_reducible rfl
                  rotate_left
                  ·simp only [Act.put, q1, q2, q3, i64_w, i32_w]
                   rfl
                  refine pure_ (i := 19) (N := some 67) (v := ?_) (a' := ?_) (bA 23 1048575) rfl rfl (an_ HT_.out) (fun _ _ _ h => h) (Or.inl ⟨by rfl, ?_⟩) ?_ ?_
                  rotate_left
                  ·intro w'
                   go_simp
                   with_reducible rfl
                  rotate_left
                  ·simp only [Act.put, q1, q2, q3, i64_w, i32_w]
                   rfl
                  refine take_ (i := 20) (N := some 68) (v := ?_) (a' := ?_) (bA 23 2097151) rfl rfl (tw_ HT_.out HW_.out) (fun _ _ _ h => h) (Or.inl ⟨by rfl, ?_⟩) hHeld ?_ ?_
                  rotate_left
                  ·rintro w' ⟨s0, s1, s2, s3, s4, s5, s6, s7, s8, s9, s10, s11, s12, s13, s14, s15, s16, s17, s18⟩
                   try simp only [Int.toNat_natCast] at s0 s1 s2 s3 s4 s5 s6 s7 s8 s9 s10 s11 s12 s13 s14 s15 s16 s17 s18
                   go_simp
                   with_reducible rfl
                  rotate_left
                  ·simp only [Act.put, q1, q2, q3, i64_w, i32_w]
                   rfl
                  have H := H'.out
                  clear H'
                  by_cases c44 : ((rd_T84 l0_0 t438).f2.f0) ≤ ((rd_T84 l0_0 t445).f2.f0)
                  ·rw [if_pos c44] at H
                   have c44b0 : decide (((rd_T84 l0_0 t438).f2.f0) ≤ ((rd_T84 l0_0 t445).f2.f0)) = true := decide_eq_true c44
                   clear c44
                   have H' := Aside0.mk H
                   clear H
                   refine pure_ (i := 21) (N := some 69) (v := ?_) (a' := ?_) (bA 23 4194303) rfl rfl (an_ HT_.out) (fun _ _ _ h => h) (Or.inl ⟨by rfl, ?_⟩) ?_ ?_
                   rotate_left
                   ·intro w'
                    go_simp
                    with_reducible rfl
                   rotate_left
                   ·simp only [Act.put, q1, q2, q3, i64_w, i32_w]
                    rfl
                   refine pure_ (i := 22) (N := some 70) (v := ?_) (a' := ?_) (bA 23 8388607) rfl rfl (an_ HT_.out) (fun _ _ _ h => h) (Or.inl ⟨by rfl, ?_⟩) ?_ ?_
                   rotate_left
                   ·intro w'
                    go_simp
                    with_reducible rfl
                   rotate_left
                   ·simp only [Act.put, q1, q2, q3, i64_w, i32_w]
                    rfl
                   refine done_ (done_of HT_.out (by kernel_rfl)) ?_
                   try go_wp2
                   (try simp only [← hl5_2])
                   go_roundg k2
                   case measure => have := HK1.out; have := HK2.out; omega
                   case rel => exact ⟨(x5_2), (wrap64 (x6_1 + 1)), (by first | rfl | (simp; done) | (simp [*]; done)), H', ⟨by have := HK1.out; have := HK2.out; omega⟩, ⟨by (try simp only [hl5_2]); (with_reducible repeat (first | apply Kd.R_alloc | apply Kd.R_drewN | apply Kd.R_drew)); exact HO_5.out⟩, ⟨by (try simp only [hl5_2]); (with_reducible repeat (first | refine blk_drewN ?_ _ | refine blk_drew ?_ | refine blk_alloc ?_ _)); exact BK426.out⟩, ⟨by repeat (first | (with_reducible first | exact HB.out | apply below_alloc | apply pw_below_drewN | apply below_drew1 | refine below_set ?_ GE426.out) | exact HB.out)⟩⟩
                  ·rw [if_neg c44] at H
                   have c44b0 : decide (((rd_T84 l0_0 t438).f2.f0) ≤ ((rd_T84 l0_0 t445).f2.f0)) = false := decide_eq_false c44
                   clear c44
                   obtain ⟨y451, hy451⟩ : ∃ y_ : List Int, y_ = (x5_2.set (x7_2 : Int).toNat (rd x5_2 (ji12))) := ⟨_, rfl⟩
                   replace H : (mortmainref06_Sorted.l1 k2 (y451.set ((ji12) : Int).toNat (rd x5_2 x7_2)) x6_1 ji12 l0_0 a0_1 a0_2) = some r := by first | (rw [hy451]; with_reducible exact H) | (have H2_ := (Option.bind_some _ _).symm.trans H; rw [hy451]; with_reducible exact H2_) | (have H2_ := (Option.bind_some _ _).symm.trans H; with_reducible exact H2_) | with_reducible exact H | (rw [hy451]; exact H) | exact H
                   have Ny451 := Aside0.mk hy451
                   clear hy451
                   obtain ⟨y452, hy452⟩ : ∃ y_ : List Int, y_ = (y451.set ((ji12) : Int).toNat (rd x5_2 x7_2)) := ⟨_, rfl⟩
                   replace H : (mortmainref06_Sorted.l1 k2 y452 x6_1 ji12 l0_0 a0_1 a0_2) = some r := by first | (rw [hy452]; with_reducible exact H) | (have H2_ := (Option.bind_some _ _).symm.trans H; rw [hy452]; with_reducible exact H2_) | (have H2_ := (Option.bind_some _ _).symm.trans H; with_reducible exact H2_) | with_reducible exact H | (rw [hy452]; exact H) | exact H
                   have Ny452 := Aside0.mk hy452
                   clear hy452
                   have H' := Aside0.mk H
                   clear H
                   refine pure_ (i := 21) (N := some 69) (v := ?_) (a' := ?_) (bA 23 4194303) rfl rfl (an_ HT_.out) (fun _ _ _ h => h) (Or.inl ⟨by rfl, ?_⟩) ?_ ?_
                   rotate_left
                   ·intro w'
                    go_simp
                    with_reducible rfl
                   rotate_left
                   ·simp only [Act.put, q1, q2, q3, i64_w, i32_w]
                    rfl
                   refine pure_ (i := 22) (N := some 70) (v := ?_) (a' := ?_) (bA 23 8388607) rfl rfl (an_ HT_.out) (fun _ _ _ h => h) (Or.inl ⟨by rfl, ?_⟩) ?_ ?_
                   rotate_left
                   ·intro w'
                    go_simp
                    with_reducible rfl
                   rotate_left
                   ·simp only [Act.put, q1, q2, q3, i64_w, i32_w]
                    rfl
                   refine done_ (done_of HT_.out (by kernel_rfl)) ?_
                   have p449 : 0 ≤ (x7_2 : Int) := oT
                   have q449 : x7_2 < (x5_2.length : Int) := oT
                   obtain ⟨ad449, e449, hx449_0⟩ := Kd.at_int (Kd.R_reads' HO_5.out).2.2 x7_2 p449 q449
                   obtain rfl : ad437 = ad449 := (by injection e449)
                   replace p449 := eq_true p449
                   replace q449 := eq_true q449
                   have p450 : 0 ≤ ((ji12) : Int) := oT
                   have q450 : (ji12) < (x5_2.length : Int) := oT
                   obtain ⟨ad450, e450, hx450_0⟩ := Kd.at_int (Kd.R_reads' HO_5.out).2.2 (ji12) p450 q450
                   obtain rfl : ad437 = ad450 := (by injection e450)
                   replace p450 := eq_true p450
                   replace q450 := eq_true q450
                   have p54 : 0 ≤ (x7_2 : Int) := oT
                   have q54 : (x7_2 : Int) < ((x5_2.length : Int) : Int) := oT
                   obtain ⟨go54, co54, eo54, gb54, gl54, cl54, HG54⟩ := Kd.R_form HO_5.out (by omega)
                   (first | cases eo54 | (injection eo54 with ea_ en_ ec_; (first | subst ea_ | (injection ea_ with ea_; subst ea_)); subst ec_; clear en_))
                   have GB54 := Aside0.mk gb54
                   have GG54 := Aside0.mk HG54
                   clear gb54 gl54 HG54
                   (first | simp only [add_plain] at hx437_0 | skip)
                   (first | simp only [add_plain] at hx444_0 | skip)
                   (first | simp only [add_plain] at hx449_0 | skip)
                   (first | simp only [add_plain] at hx450_0 | skip)
                   obtain ⟨hx54_0, hf54_0⟩ := Kd.R_celln 0 HO_5.out (x7_2 : Int) p54 q54
                   replace p54 := eq_true p54
                   replace q54 := eq_true q54
                   obtain ⟨hy65_, hz65_⟩ := Kd.R_celln 0 HO_5.out (x7_2 : Int) (oT) (oT)
                   have HP65 := Kd.R_putg HO_5.out (x7_2 : Int) (rd x5_2 (ji12))
                   try go_wp2_with (first | ((with_reducible refine gate_store (t := 3) (p := 82) rfl ?_); refine store_event (t := 3) (p := 82) (v := ?vo_w66) (w1 := (w53.setCell ⟨go54, (x7_2 : Int).toNat, none⟩ (.int .i64 (rd x5_2 (ji12))))) ?hg ?ho ?hn ?hr ?_; (case ho => rfl); (case hg => rfl); (case hn => rfl); (case hr => first | (go_simp; done) | (go_simp; rfl)); intro w66 hw; have hg : w53.grownBy w66 (some go54) := (by rw [hw]; exact HP65.2); have hp_ : Kd.R (Kd.int .i64) 3 w66 w.heap.size (fun _ => True) (.slice (some ⟨go54, 0, none⟩) x5_2.length co9) y451 := (by rw [hw, Ny451.out]; exact HP65.1); clear HP65; have n0_ := Aside0.mk (hp_); have n1_ := Aside0.mk (blk_grown (g := gb426) (o := .cells #[.slice (some ad447) l0_0.length c0_0, .int .i64 a0_1, .int .i64 a0_2] 37 (0, 0)) (kT BK426.out) hg (Kd.R_ne HO_5.out BK426.out (by decide))); have n2_ := Aside0.mk (Kd.R_over' (v := (.slice (some ⟨go54, 0, none⟩) x5_2.length co9)) (rT HO435.out) (Kd.R_typed HO_5.out) (by decide) hg); have n3_ := Aside0.mk (Kd.R_over' (v := (.slice (some ⟨go54, 0, none⟩) x5_2.length co9)) (rT HO442.out) (Kd.R_typed HO_5.out) (by decide) hg); have n4_ := Aside0.mk ((by rw [hw]; exact below_set (HB.out) GB54.out : Below w.heap.size w w66)); clear HO_5; clear BK426; clear HO435; clear HO442; clear HB; have HO_5 := n0_; have BK426 := n1_; have HO435 := n2_; have HO442 := n3_; have HB := n4_; clear n0_ n1_ n2_ n3_ n4_; clear hg hw hp_; have p55 : 0 ≤ ((ji12) : Int) := oT; have q55 : ((ji12) : Int) < ((x5_2.length : Int) : Int) := oT; obtain ⟨hx55_0, hf55_0⟩ := Kd.R_celln 0 HO_5.out ((ji12) : Int) p55 q55; replace p55 := eq_true p55; replace q55 := eq_true q55; obtain ⟨hy67_, hz67_⟩ := Kd.R_celln 0 HO_5.out ((ji12) : Int) (oT) (oT); have HP67 := Kd.R_putg HO_5.out ((ji12) : Int) (rd x5_2 x7_2)) | ((with_reducible refine gate_store (t := 3) (p := 87) rfl ?_); refine store_event (t := 3) (p := 87) (v := ?vo_w68) (w1 := (w66.setCell ⟨go54, ((ji12) : Int).toNat, none⟩ (.int .i64 (rd x5_2 x7_2)))) ?hg ?ho ?hn ?hr ?_; (case ho => rfl); (case hg => rfl); (case hn => rfl); (case hr => first | (go_simp; done) | (go_simp; rfl)); intro w68 hw; have hg : w66.grownBy w68 (some go54) := (by rw [hw]; exact HP67.2); have hp_ : Kd.R (Kd.int .i64) 3 w68 w.heap.size (fun _ => True) (.slice (some ⟨go54, 0, none⟩) x5_2.length co9) y452 := (by rw [hw, Ny452.out]; exact HP67.1); clear HP67; have n0_ := Aside0.mk (hp_); have n1_ := Aside0.mk (blk_grown (g := gb426) (o := .cells #[.slice (some ad447) l0_0.length c0_0, .int .i64 a0_1, .int .i64 a0_2] 37 (0, 0)) (kT BK426.out) hg (Kd.R_ne HO_5.out BK426.out (by decide))); have n2_ := Aside0.mk (Kd.R_over' (v := (.slice (some ⟨go54, 0, none⟩) x5_2.length co9)) (rT HO435.out) (Kd.R_typed HO_5.out) (by decide) hg); have n3_ := Aside0.mk (Kd.R_over' (v := (.slice (some ⟨go54, 0, none⟩) x5_2.length co9)) (rT HO442.out) (Kd.R_typed HO_5.out) (by decide) hg); have n4_ := Aside0.mk ((by rw [hw]; exact below_set (HB.out) GB54.out : Below w.heap.size w w68)); clear HO_5; clear BK426; clear HO435; clear HO442; clear HB; have HO_5 := n0_; have BK426 := n1_; have HO435 := n2_; have HO442 := n3_; have HB := n4_; clear n0_ n1_ n2_ n3_ n4_; clear hg hw hp_))
                   (try simp only [← hl5_2])
                   go_roundg k2
                   case measure => have := HK1.out; have := HK2.out; omega
                   case rel => exact ⟨(y452), (ji12), (by first | rfl | (simp; done) | (simp only [← hji12] <;> (first | rfl | simp)) | (simp [*]; done)), H', ⟨by have := HK1.out; have := HK2.out; omega⟩, ⟨by (try simp only [hl5_2]); (with_reducible repeat (first | apply Kd.R_alloc | apply Kd.R_drewN | apply Kd.R_drew)); exact HO_5.out⟩, ⟨by (try simp only [hl5_2]); (with_reducible repeat (first | refine blk_drewN ?_ _ | refine blk_drew ?_ | refine blk_alloc ?_ _)); exact BK426.out⟩, ⟨by repeat (first | (with_reducible first | exact HB.out | apply below_alloc | apply pw_below_drewN | apply below_drew1 | refine below_set ?_ GE426.out) | exact HB.out)⟩⟩
                 ·rw [if_neg c43] at H
                  exact absurd H (by simp)
                ·rw [if_neg c42] at H
                 exact absurd H (by simp)
               ·rw [if_neg c41] at H
                exact absurd H (by simp)
              ·rw [if_neg c40] at H
               exact absurd H (by simp)
           ·rw [if_neg c18] at H
            exact absurd H (by simp)
          ·rw [if_neg c17] at H
           exact absurd H (by simp)
         ·rw [if_neg c14] at H
          exact absurd H (by simp)
        ·rw [if_neg c13] at H
         exact absurd H (by simp)
       ·rw [if_neg c10] at H
        have c10b0 : decide (0 < x7_2) = false := decide_eq_false c10
        clear c10
        have H' := Aside0.mk H
        clear H
        go_wp2
        (try simp only [← hl5_2])
        go_roundg k2
        case measure => have := HK1.out; have := HK2.out; omega
        case rel => exact ⟨(x5_2), (wrap64 (x6_1 + 1)), (by first | rfl | (simp; done) | (simp [*]; done)), H', ⟨by have := HK1.out; have := HK2.out; omega⟩, ⟨by (try simp only [hl5_2]); (with_reducible repeat (first | apply Kd.R_alloc | apply Kd.R_drewN | apply Kd.R_drew)); exact HO_5.out⟩, ⟨by (try simp only [hl5_2]); (with_reducible repeat (first | refine blk_drewN ?_ _ | refine blk_drew ?_ | refine blk_alloc ?_ _)); exact BK426.out⟩, ⟨by repeat (first | (with_reducible first | exact HB.out | apply below_alloc | apply pw_below_drewN | apply below_drew1 | refine below_set ?_ GE426.out) | exact HB.out)⟩⟩
    ·rw [if_neg c8] at H
     have c8b0 : decide (x6_1 < (x5_1.length : Int)) = false := decide_eq_false c8
     clear c8
     obtain rfl := Option.some.inj H
     obtain ⟨Ao69, co69, eo69⟩ := Kd.R_slice HO_5.out
     subst eo69
     go_wp2
     go_ret
     exact ⟨_, by first | rfl | (simp [errW_none, errW_some] <;> rfl) | (simp [*, errW_none, errW_some] <;> rfl), by (with_reducible repeat (first | apply Kd.R_alloc | apply Kd.R_drewN | apply Kd.R_drew)); exact HO_5.out, by repeat (first | (with_reducible first | exact HB.out | apply below_alloc | apply pw_below_drewN | apply below_drew1 | refine below_set ?_ GE426.out) | exact HB.out)⟩
 ·rw [if_neg c3] at H
  exact absurd H (by simp)
end Go.Proofs.Ytkmjboeabmmecaa.MAll
