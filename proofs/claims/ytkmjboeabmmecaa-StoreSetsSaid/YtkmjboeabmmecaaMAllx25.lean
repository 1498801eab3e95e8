/- The functions that the law reaches in plain Lean, and that the calls come to what these say. No condition. (By wip/myprint.py, this session's program over the kit's print.) -/
import Derived.Test.YtkmjboeabmmecaaMAllx4
import Derived.Test.YtkmjboeabmmecaaMAllx6
import Derived.Test.YtkmjboeabmmecaaMAllx8
import Derived.Test.YtkmjboeabmmecaaMAllhlaw06shown
import Derived.Test.YtkmjboeabmmecaaMAllhstoreGet
import Derived.Test.YtkmjboeabmmecaaMAllhstoreSet
namespace Go.Proofs.Ytkmjboeabmmecaa.MAll
open Go.RowKit Go.Proofs.YtkmjboeabmmecaaW.PrintWords Go.Proofs.YtkmjboeabmmecaaW.PrintLast Go.Proofs.YtkmjboeabmmecaaW.PrintMore
attribute [local go_sem] max2_int min2_int max_two min_two max_three min_three max_four min_four
set_option linter.unusedVariables false
set_option linter.unusedSimpArgs false
mutual
def mortmainlaw06_StoreSets.j0 : Nat → Int → Bool → List (S82) → Int → Int → Int → Int → Int → Int → Bool → List Int → Option (Bool)
 | 0, _, _, _, _, _, _, _, _, _, _, _ => none
 | k + 1, x1, x27, x190000, x190001, x190002, x191000, x191001, x191002, x191003, x191004, x191005 => if x27 = true then ((mortmainlaw06_shown.f).bind fun t193 => (some t193)) else ((store_Set.f x190000 x190001 x190002 x1 x191000 x191001 x191002 x191003 x191004 x191005).bind fun bt194 => ((mortmainlaw06_its.f k x190000 x190001 x190002).bind fun bt201 => ((mortmainlaw06_obj.f x191000 x191001 x191002 x191003 x191004 x191005).bind fun bt206 => ((mortmainref06_Set.f k bt201.1 bt201.2.1 bt201.2.2 x1 bt206.1 bt206.2.1 bt206.2.2.1 bt206.2.2.2.1 bt206.2.2.2.2.1 bt206.2.2.2.2.2).bind fun bt214 => ((mortmainlaw06_its.f k bt194.1 bt194.2.1 bt194.2.2.1).bind fun bt221 => ((mortmainref06_Same.f k bt221.1 bt221.2.1 bt221.2.2 bt214.1 bt214.2.1 bt214.2.2.1).bind fun t226 => (if t226 = true then (mortmainlaw06_StoreSets.j1 k x1 (bt194.2.2.2 != bt214.2.2.2) x190000 x190001 x190002 x191000 x191001 x191002 x191003 x191004 x191005 bt194.1 bt194.2.1 bt194.2.2.1 bt214.1 bt214.2.1 bt214.2.2.1) else (none))))))))
def mortmainlaw06_StoreSets.j1 : Nat → Int → Bool → List (S82) → Int → Int → Int → Int → Int → Int → Bool → List Int → List (S82) → Int → Int → List (S84) → Int → Int → Option (Bool)
 | 0, _, _, _, _, _, _, _, _, _, _, _, _, _, _, _, _, _ => none
 | k + 1, x1, x54, x190000, x190001, x190002, x191000, x191001, x191002, x191003, x191004, x191005, x201000, x201001, x201002, x221000, x221001, x221002 => if x54 = true then (none) else ((mortmainref06_Right.f k x221000 x221001 x221002).bind fun t227 => (if t227 = true then ((store_Get.f x201000 x201001 x201002 x1).bind fun bt228 => ((store_Get.f x190000 x190001 x190002 x1).bind fun bt238 => (if bt228.2.2.2.2.2.2 = bt238.2.2.2.2.2.2 then (if bt228.2.2.2.2.2.2 = 0 then ((mortmainlaw06_obj.f bt228.1 bt228.2.1 bt228.2.2.1 bt228.2.2.2.1 bt228.2.2.2.2.1 bt228.2.2.2.2.2.1).bind fun bt248 => ((mortmainlaw06_obj.f x191000 x191001 x191002 x191003 x191004 x191005).bind fun bt256 => ((mortmainref06_Alike.f k bt248.1 bt248.2.1 bt248.2.2.1 bt248.2.2.2.1 bt248.2.2.2.2.1 bt248.2.2.2.2.2 bt256.1 bt256.2.1 bt256.2.2.1 bt256.2.2.2.1 bt256.2.2.2.2.1 bt256.2.2.2.2.2).bind fun t264 => (some t264)))) else (some true)) else (none)))) else (some true)))
end
def mortmainlaw06_StoreSets.f (k : Nat) (l0_0 : List (S82)) (a0_1 : Int) (a0_2 : Int) (a1 : Int) (a2_0 : Int) (a2_1 : Int) (a2_2 : Int) (a2_3 : Int) (a2_4 : Bool) (l2_5 : List Int) : Option (Bool) := (mortmainlaw06_right.f k l0_0 a0_1 a0_2).bind fun t191 => (if t191 = true then (if (l2_5.length : Int) > 10 then (mortmainlaw06_StoreSets.j0 k a1 true l0_0 a0_1 a0_2 a2_0 a2_1 a2_2 a2_3 a2_4 l2_5) else ((mortmainlaw06_shown.f).bind fun t192 => (mortmainlaw06_StoreSets.j0 k a1 (!t192) l0_0 a0_1 a0_2 a2_0 a2_1 a2_2 a2_3 a2_4 l2_5))) else (mortmainlaw06_StoreSets.j0 k a1 true l0_0 a0_1 a0_2 a2_0 a2_1 a2_2 a2_3 a2_4 l2_5))
theorem mortmainlaw06_StoreSets.mono_l : ∀ k, (∀ y0 y1 y2 y3 y4 y5 y6 y7 y8 y9 y10, LeO (mortmainlaw06_StoreSets.j0 k y0 y1 y2 y3 y4 y5 y6 y7 y8 y9 y10) (mortmainlaw06_StoreSets.j0 (k + 1) y0 y1 y2 y3 y4 y5 y6 y7 y8 y9 y10)) ∧ (∀ y0 y1 y2 y3 y4 y5 y6 y7 y8 y9 y10 y11 y12 y13 y14 y15 y16, LeO (mortmainlaw06_StoreSets.j1 k y0 y1 y2 y3 y4 y5 y6 y7 y8 y9 y10 y11 y12 y13 y14 y15 y16) (mortmainlaw06_StoreSets.j1 (k + 1) y0 y1 y2 y3 y4 y5 y6 y7 y8 y9 y10 y11 y12 y13 y14 y15 y16))
 | 0 => ⟨fun _ _ _ _ _ _ _ _ _ _ _ r h => by simp [mortmainlaw06_StoreSets.j0] at h, fun _ _ _ _ _ _ _ _ _ _ _ _ _ _ _ _ _ r h => by simp [mortmainlaw06_StoreSets.j1] at h⟩
 | k + 1 => by
  obtain ⟨ih0, ih1⟩ := mortmainlaw06_StoreSets.mono_l k
  refine ⟨?_, ?_⟩
  ·intro y0 y1 y2 y3 y4 y5 y6 y7 y8 y9 y10
   unfold mortmainlaw06_StoreSets.j0
   repeat' first
   | (with_reducible exact ih0 _ _ _ _ _ _ _ _ _ _ _)
   | (with_reducible exact ih1 _ _ _ _ _ _ _ _ _ _ _ _ _ _ _ _ _)
   | (with_reducible exact mortmainlaw06_its.mono _ _ _ _)
   | (with_reducible exact mortmainlaw06_right.mono _ _ _ _)
   | (with_reducible exact mortmainref06_Alike.mono _ _ _ _ _ _ _ _ _ _ _ _ _)
   | (with_reducible exact mortmainref06_Right.mono _ _ _ _)
   | (with_reducible exact mortmainref06_Same.mono _ _ _ _ _ _ _)
   | (with_reducible exact mortmainref06_Set.mono _ _ _ _ _ _ _ _ _ _ _)
   | (with_reducible exact LeO.refl _)
   | (with_reducible exact LeO.none _)
   | (with_reducible refine LeO.ite ?_ ?_)
   | (with_reducible refine LeO.bind ?_ (fun _ => ?_))
   | exact ih0 _ _ _ _ _ _ _ _ _ _ _
   | exact ih1 _ _ _ _ _ _ _ _ _ _ _ _ _ _ _ _ _
   | exact mortmainlaw06_its.mono _ _ _ _
   | exact mortmainlaw06_right.mono _ _ _ _
   | exact mortmainref06_Alike.mono _ _ _ _ _ _ _ _ _ _ _ _ _
   | exact mortmainref06_Right.mono _ _ _ _
   | exact mortmainref06_Same.mono _ _ _ _ _ _ _
   | exact mortmainref06_Set.mono _ _ _ _ _ _ _ _ _ _ _
   | exact LeO.none _
   | refine LeO.ite ?_ ?_
   | refine LeO.bind ?_ (fun _ => ?_)
  ·intro y0 y1 y2 y3 y4 y5 y6 y7 y8 y9 y10 y11 y12 y13 y14 y15 y16
   unfold mortmainlaw06_StoreSets.j1
   repeat' first
   | (with_reducible exact ih0 _ _ _ _ _ _ _ _ _ _ _)
   | (with_reducible exact ih1 _ _ _ _ _ _ _ _ _ _ _ _ _ _ _ _ _)
   | (with_reducible exact mortmainlaw06_its.mono _ _ _ _)
   | (with_reducible exact mortmainlaw06_right.mono _ _ _ _)
   | (with_reducible exact mortmainref06_Alike.mono _ _ _ _ _ _ _ _ _ _ _ _ _)
   | (with_reducible exact mortmainref06_Right.mono _ _ _ _)
   | (with_reducible exact mortmainref06_Same.mono _ _ _ _ _ _ _)
   | (with_reducible exact mortmainref06_Set.mono _ _ _ _ _ _ _ _ _ _ _)
   | (with_reducible exact LeO.refl _)
   | (with_reducible exact LeO.none _)
   | (with_reducible refine LeO.ite ?_ ?_)
   | (with_reducible refine LeO.bind ?_ (fun _ => ?_))
   | exact ih0 _ _ _ _ _ _ _ _ _ _ _
   | exact ih1 _ _ _ _ _ _ _ _ _ _ _ _ _ _ _ _ _
   | exact mortmainlaw06_its.mono _ _ _ _
   | exact mortmainlaw06_right.mono _ _ _ _
   | exact mortmainref06_Alike.mono _ _ _ _ _ _ _ _ _ _ _ _ _
   | exact mortmainref06_Right.mono _ _ _ _
   | exact mortmainref06_Same.mono _ _ _ _ _ _ _
   | exact mortmainref06_Set.mono _ _ _ _ _ _ _ _ _ _ _
   | exact LeO.none _
   | refine LeO.ite ?_ ?_
   | refine LeO.bind ?_ (fun _ => ?_)
theorem mortmainlaw06_StoreSets.mono : ∀ a0 a1 a2 a3 a4 a5 a6 a7 a8 a9 k, LeO (mortmainlaw06_StoreSets.f k a0 a1 a2 a3 a4 a5 a6 a7 a8 a9) (mortmainlaw06_StoreSets.f (k + 1) a0 a1 a2 a3 a4 a5 a6 a7 a8 a9) := by
 intro a0 a1 a2 a3 a4 a5 a6 a7 a8 a9 k
 obtain ⟨ih0, ih1⟩ := mortmainlaw06_StoreSets.mono_l k
 unfold mortmainlaw06_StoreSets.f
 repeat' first
   | (with_reducible exact ih0 _ _ _ _ _ _ _ _ _ _ _)
   | (with_reducible exact ih1 _ _ _ _ _ _ _ _ _ _ _ _ _ _ _ _ _)
   | (with_reducible exact mortmainlaw06_its.mono _ _ _ _)
   | (with_reducible exact mortmainlaw06_right.mono _ _ _ _)
   | (with_reducible exact mortmainref06_Alike.mono _ _ _ _ _ _ _ _ _ _ _ _ _)
   | (with_reducible exact mortmainref06_Right.mono _ _ _ _)
   | (with_reducible exact mortmainref06_Same.mono _ _ _ _ _ _ _)
   | (with_reducible exact mortmainref06_Set.mono _ _ _ _ _ _ _ _ _ _ _)
   | (with_reducible exact LeO.refl _)
   | (with_reducible exact LeO.none _)
   | (with_reducible refine LeO.ite ?_ ?_)
   | (with_reducible refine LeO.bind ?_ (fun _ => ?_))
   | exact ih0 _ _ _ _ _ _ _ _ _ _ _
   | exact ih1 _ _ _ _ _ _ _ _ _ _ _ _ _ _ _ _ _
   | exact mortmainlaw06_its.mono _ _ _ _
   | exact mortmainlaw06_right.mono _ _ _ _
   | exact mortmainref06_Alike.mono _ _ _ _ _ _ _ _ _ _ _ _ _
   | exact mortmainref06_Right.mono _ _ _ _
   | exact mortmainref06_Same.mono _ _ _ _ _ _ _
   | exact mortmainref06_Set.mono _ _ _ _ _ _ _ _ _ _ _
   | exact LeO.none _
   | refine LeO.ite ?_ ?_
   | refine LeO.bind ?_ (fun _ => ?_)
def mortmainlaw06_StoreSets.T4 : Bool × List (List Nat × List Nat) := (true, [([], []), ([0], [0]), ([], []), ([], []), ([3, 1], [3]), ([1, 2, 4, 4], [1, 2, 4]), ([5], [5]), ([6], [6]), ([6], [6]), ([], []), ([9, 7, 5, 0, 1, 2, 3, 4, 5, 6, 7, 9], [7, 9]), ([8, 10, 0, 1, 2, 3, 4, 5, 6, 7, 8, 9, 10], [8])])
def mortmainlaw06_StoreSets.B4 : List Nat := [0, 1, 0, 0, 11, 31, 63, 127, 127, 0, 767, 2047]
theorem mortmainlaw06_StoreSets.tab4 : rtab .any (opsOf Try.f3 4) = mortmainlaw06_StoreSets.T4 := by kernel_rfl
theorem mortmainlaw06_StoreSets.bits4 : waitsOk mortmainlaw06_StoreSets.T4.2 mortmainlaw06_StoreSets.B4 = true := by kernel_rfl
def mortmainlaw06_StoreSets.T5 : Bool × List (List Nat × List Nat) := (true, [([], []), ([0], [0]), ([], []), ([1, 2, 1], [1, 2]), ([3], [3]), ([4, 3], [4]), ([5], [5]), ([5], [5]), ([6, 7, 5], [5, 6, 7]), ([5, 8], [5, 8])])
def mortmainlaw06_StoreSets.B5 : List Nat := [0, 1, 0, 7, 15, 31, 63, 63, 255, 511]
theorem mortmainlaw06_StoreSets.tab5 : rtab .any (opsOf Try.f3 5) = mortmainlaw06_StoreSets.T5 := by kernel_rfl
theorem mortmainlaw06_StoreSets.bits5 : waitsOk mortmainlaw06_StoreSets.T5.2 mortmainlaw06_StoreSets.B5 = true := by kernel_rfl
def mortmainlaw06_StoreSets.T11 : Bool × List (List Nat × List Nat) := (true, [([], []), ([], []), ([0, 1], [0, 1]), ([2], [2]), ([3], [3]), ([4, 3], [3, 4]), ([5, 3, 3], [3, 5]), ([6], [6]), ([7, 6, 6], [6, 7]), ([6], [6]), ([9, 8, 6], [6, 9]), ([8, 10, 10, 6], [6, 8, 10]), ([6, 11, 3], [3, 6, 11]), ([3, 12], [3, 12]), ([13, 11, 0, 1, 2, 3, 4, 5, 6, 7, 8, 9, 10, 11, 12, 13], [13])])
def mortmainlaw06_StoreSets.B11 : List Nat := [0, 0, 3, 7, 15, 31, 63, 127, 255, 127, 1023, 2047, 4095, 8191, 16383]
theorem mortmainlaw06_StoreSets.tab11 : rtab .any (opsOf Try.f3 11) = mortmainlaw06_StoreSets.T11 := by kernel_rfl
theorem mortmainlaw06_StoreSets.bits11 : waitsOk mortmainlaw06_StoreSets.T11.2 mortmainlaw06_StoreSets.B11 = true := by kernel_rfl
set_option maxHeartbeats 8000000 in
set_option maxRecDepth 100000 in
theorem mortmainlaw06_StoreSets.calls (k : Nat) (A0_0 : Option Addr) (c0_0 : Nat) (l0_0 : List (S82)) (a0_1 : Int) (a0_2 : Int) (a1 : Int) (a2_0 : Int) (a2_1 : Int) (a2_2 : Int) (a2_3 : Int) (a2_4 : Bool) (A2_5 : Option Addr) (c2_5 : Nat) (l2_5 : List Int) (r : Bool) (w : World) (hr0_0 : Kd.C k82 w A0_0 l0_0.length l0_0) (hc0_0 : l0_0.length ≤ c0_0) (hr2_5 : Kd.C (Kd.int .i64) w A2_5 l2_5.length l2_5) (hc2_5 : l2_5.length ≤ c2_5) (h : mortmainlaw06_StoreSets.f k l0_0 a0_1 a0_2 a1 a2_0 a2_1 a2_2 a2_3 a2_4 l2_5 = some r) :
  Calls Try.prog 3 #[.agg #[.slice A0_0 l0_0.length c0_0, .int .i64 a0_1, .int .i64 a0_2], .int .i64 a1, .agg #[.int .i64 a2_0, .int .i64 a2_1, .int .i64 a2_2, .int .i64 a2_3, .bool a2_4, .slice A2_5 l2_5.length c2_5]] w fun e w' => e = .returned (.bool r) ∧ Below w.heap.size w w' := by
 have hu26 := Try.underlying26
 have hu29 := Try.underlying29
 have hu37 := Try.underlying37
 have HR0_0 := Aside0.mk hr0_0
 have HC0_0 := Aside0.mk hc0_0
 clear hr0_0 hc0_0
 have HR2_5 := Aside0.mk hr2_5
 have HC2_5 := Aside0.mk hc2_5
 clear hr2_5 hc2_5
 have HB := Aside0.mk (Below.refl w.heap.size w)
 have H : ((mortmainlaw06_right.f k l0_0 a0_1 a0_2).bind fun t191 => (if t191 = true then (if (l2_5.length : Int) > 10 then (mortmainlaw06_StoreSets.j0 k a1 true l0_0 a0_1 a0_2 a2_0 a2_1 a2_2 a2_3 a2_4 l2_5) else ((mortmainlaw06_shown.f).bind fun t192 => (mortmainlaw06_StoreSets.j0 k a1 (!t192) l0_0 a0_1 a0_2 a2_0 a2_1 a2_2 a2_3 a2_4 l2_5))) else (mortmainlaw06_StoreSets.j0 k a1 true l0_0 a0_1 a0_2 a2_0 a2_1 a2_2 a2_3 a2_4 l2_5))) = some r := h
 clear h
 have HC4 := Aside0.mk H
 clear H
 go_enter Try.func3, Try.ntmps3
 go_upto_region 1 with (first | ((with_reducible refine gate_dst (N := 3) rfl ?_); (try (refine gate_guard (by rfl) ?_; dsimp only)); refine box_event ?hg (N := 3) ?hd (cs := #[.slice A0_0 l0_0.length c0_0, .int .i64 a0_1, .int .i64 a0_2]) (t := 26) ?hr ?_; (case hd => rfl); (case hg => rfl); (case hr => first | (go_simp; done) | (go_simp; rfl)); intro gb189 hg w5 hbox hb; have n0_ := Aside0.mk (below_step bT hb); have n1_ := Aside0.mk (hbox); have n2_ := Aside0.mk (gT hg bT); have n3_ := Aside0.mk (gT hg bT); clear HB; have HB := n0_; have BK189 := n1_; have GW189 := n2_; have GE189 := n3_; clear n0_ n1_ n2_ n3_; clear hb hbox hg) | ((with_reducible refine gate_dst (N := 5) rfl ?_); (try (refine gate_guard (by rfl) ?_; dsimp only)); refine box_event ?hg (N := 5) ?hd (cs := #[.int .i64 a2_0, .int .i64 a2_1, .int .i64 a2_2, .int .i64 a2_3, .bool a2_4, .slice A2_5 l2_5.length c2_5]) (t := 29) ?hr ?_; (case hd => rfl); (case hg => rfl); (case hr => first | (go_simp; done) | (go_simp; rfl)); intro gb190 hg w6 hbox hb; have n0_ := Aside0.mk (blk_below (g := gb189) (o := .cells #[.slice A0_0 l0_0.length c0_0, .int .i64 a0_1, .int .i64 a0_2] 26 (0, 0)) (kT BK189.out) hb); have n1_ := Aside0.mk (below_step (bG GE189.out) hb); have n2_ := Aside0.mk (hbox); have n3_ := Aside0.mk (gT hg (bG GE189.out)); have n4_ := Aside0.mk (gT hg (bG GE189.out)); have n5_ := Aside0.mk ((by rw [hg]; exact Nat.ne_of_lt (blk_lt (g := gb189) (o := .cells #[.slice A0_0 l0_0.length c0_0, .int .i64 a0_1, .int .i64 a0_2] 26 (0, 0)) (kT BK189.out)) : gb189 ≠ gb190)); have n6_ := Aside0.mk ((by rw [hg]; exact Nat.ne_of_gt (blk_lt (g := gb189) (o := .cells #[.slice A0_0 l0_0.length c0_0, .int .i64 a0_1, .int .i64 a0_2] 26 (0, 0)) (kT BK189.out)) : gb190 ≠ gb189)); clear BK189; clear HB; have BK189 := n0_; have HB := n1_; have BK190 := n2_; have GW190 := n3_; have GE190 := n4_; have NB189_190 := n5_; have NB190_189 := n6_; clear n0_ n1_ n2_ n3_ n4_ n5_ n6_; clear hb hbox hg))
 (try simp only [Act.put, q1, q2, q3])
 go_cut [27] (fun v27 wc => ∃ (kq : Nat) (x27_3 : Bool), v27 = .bool x27_3 ∧ Aside0 (mortmainlaw06_StoreSets.j0 kq a1 x27_3 l0_0 a0_1 a0_2 a2_0 a2_1 a2_2 a2_3 a2_4 l2_5 = some r) ∧ Aside0 (kq ≤ k) ∧ Aside0 (wc.heap[gb189]? = some (.cells #[(.slice A0_0 l0_0.length c0_0), .int .i64 a0_1, .int .i64 a0_2] 26 (0, 0))) ∧ Aside0 (wc.heap[gb190]? = some (.cells #[.int .i64 a2_0, .int .i64 a2_1, .int .i64 a2_2, .int .i64 a2_3, .bool a2_4, (.slice A2_5 l2_5.length c2_5)] 29 (0, 0))) ∧ Aside0 (Below w.heap.size w wc))
 case first =>
  have H := HC4.out
  clear HC4
  replace H := Option.bind_eq_some_iff.mp H
  obtain ⟨t191, A70, H⟩ := H
  replace H : (if t191 = true then (if (l2_5.length : Int) > 10 then (mortmainlaw06_StoreSets.j0 k a1 true l0_0 a0_1 a0_2 a2_0 a2_1 a2_2 a2_3 a2_4 l2_5) else ((mortmainlaw06_shown.f).bind fun t192 => (mortmainlaw06_StoreSets.j0 k a1 (!t192) l0_0 a0_1 a0_2 a2_0 a2_1 a2_2 a2_3 a2_4 l2_5))) else (mortmainlaw06_StoreSets.j0 k a1 true l0_0 a0_1 a0_2 a2_0 a2_1 a2_2 a2_3 a2_4 l2_5)) = some r := H
  have A7 := Aside0.mk A70
  clear A70
  by_cases c8 : t191 = true
  ·subst c8
   have H1 : (if (l2_5.length : Int) > 10 then (mortmainlaw06_StoreSets.j0 k a1 true l0_0 a0_1 a0_2 a2_0 a2_1 a2_2 a2_3 a2_4 l2_5) else ((mortmainlaw06_shown.f).bind fun t192 => (mortmainlaw06_StoreSets.j0 k a1 (!t192) l0_0 a0_1 a0_2 a2_0 a2_1 a2_2 a2_3 a2_4 l2_5))) = some r := by rw [if_pos rfl] at H; exact H
   clear H
   have H := H1
   clear H1
   by_cases c9 : (l2_5.length : Int) > 10
   ·rw [if_pos c9] at H
    have c9b0 : decide (10 < (l2_5.length : Int)) = true := decide_eq_true c9
    have c9b1 : decide (10 < l2_5.length) = true := decide_eq_true (by omega)
    clear c9
    (first | rw [c9b0] | (simp only [i64_w, i32_w]; rw [c9b0]) | skip)
    have H' := Aside0.mk H
    clear H
    have hnb10 := NB189_190.out
    have hnc10 := NB190_189.out
    have hcz11_0 : w6.cell? ⟨gb189, 0, none⟩ = some (.slice A0_0 l0_0.length c0_0) := (blk_cell BK189.out 0).trans rfl
    have hcz11_1 : w6.cell? ⟨gb189, 1, none⟩ = some (.int .i64 a0_1) := (blk_cell BK189.out 1).trans rfl
    have hcz11_2 : w6.cell? ⟨gb189, 2, none⟩ = some (.int .i64 a0_2) := (blk_cell BK189.out 2).trans rfl
    have hfz11_0 := blk_frozen BK189.out 0
    have hfz11_1 := blk_frozen BK189.out 1
    have hfz11_2 := blk_frozen BK189.out 2
    go_wp2_with (first | ((with_reducible refine gate_callee (f := 15) rfl ?_); refine goesL_ (some 16) rfl rfl Try.func15 (by kernel_rfl) rfl #[.agg #[.slice A0_0 l0_0.length c0_0, .int .i64 a0_1, .int .i64 a0_2]] rfl mT ?_; (with_reducible refine (mortmainlaw06_right.calls k _ _ l0_0 a0_1 a0_2 true _ ?side1 ?side2 A7.out).mono ?_); (case side1 => repeat (first | exact (Kd.C_below HR0_0.out HB.out) | (with_reducible refine Kd.C_alloc ?_ _) | (with_reducible refine Kd.C_drewN ?_ _) | (with_reducible refine Kd.C_drew ?_))); (case side2 => exact HC0_0.out); rintro e w12 ⟨rfl, hb⟩; refine ⟨_, rfl, ?_⟩; have n0_ := Aside0.mk (blk_below (g := gb189) (o := .cells #[.slice A0_0 l0_0.length c0_0, .int .i64 a0_1, .int .i64 a0_2] 26 (0, 0)) (kT BK189.out) hb); have n1_ := Aside0.mk (blk_below (g := gb190) (o := .cells #[.int .i64 a2_0, .int .i64 a2_1, .int .i64 a2_2, .int .i64 a2_3, .bool a2_4, .slice A2_5 l2_5.length c2_5] 29 (0, 0)) (kT BK190.out) hb); have n2_ := Aside0.mk (below_step (bH GE189.out GE190.out) hb); clear BK189; clear BK190; clear HB; have BK189 := n0_; have BK190 := n1_; have HB := n2_; clear n0_ n1_ n2_; (try clear hb); (try clear hb2); (try clear hk); (try clear hi); have hcz13_0 : w12.cell? ⟨gb190, 0, none⟩ = some (.int .i64 a2_0) := (blk_cell BK190.out 0).trans rfl; have hcz13_1 : w12.cell? ⟨gb190, 1, none⟩ = some (.int .i64 a2_1) := (blk_cell BK190.out 1).trans rfl; have hcz13_2 : w12.cell? ⟨gb190, 2, none⟩ = some (.int .i64 a2_2) := (blk_cell BK190.out 2).trans rfl; have hcz13_3 : w12.cell? ⟨gb190, 3, none⟩ = some (.int .i64 a2_3) := (blk_cell BK190.out 3).trans rfl; have hcz13_4 : w12.cell? ⟨gb190, 4, none⟩ = some (.bool a2_4) := (blk_cell BK190.out 4).trans rfl; have hcz13_5 : w12.cell? ⟨gb190, 5, none⟩ = some (.slice A2_5 l2_5.length c2_5) := (blk_cell BK190.out 5).trans rfl; have hfz13_0 := blk_frozen BK190.out 0; have hfz13_1 := blk_frozen BK190.out 1; have hfz13_2 := blk_frozen BK190.out 2; have hfz13_3 := blk_frozen BK190.out 3; have hfz13_4 := blk_frozen BK190.out 4; have hfz13_5 := blk_frozen BK190.out 5))
    go_meet
    case rel => exact ⟨_, (true), (by first | rfl | (simp; done) | (simp [*]; done)), H', ⟨by first | omega | exact Nat.le_refl _⟩, ⟨by (with_reducible repeat (first | refine blk_drewN ?_ _ | refine blk_drew ?_ | refine blk_alloc ?_ _)); exact BK189.out⟩, ⟨by (with_reducible repeat (first | refine blk_drewN ?_ _ | refine blk_drew ?_ | refine blk_alloc ?_ _)); exact BK190.out⟩, ⟨by repeat (first | (with_reducible first | exact HB.out | apply below_alloc | apply pw_below_drewN | apply below_drew1 | refine below_set ?_ GE189.out | refine below_set ?_ GE190.out) | exact HB.out)⟩⟩
   ·rw [if_neg c9] at H
    have c9b0 : decide (10 < (l2_5.length : Int)) = false := decide_eq_false c9
    have c9b1 : decide (10 < l2_5.length) = false := decide_eq_false (by omega)
    clear c9
    (first | rw [c9b0] | (simp only [i64_w, i32_w]; rw [c9b0]) | skip)
    replace H := Option.bind_eq_some_iff.mp H
    obtain ⟨t192, A140, H⟩ := H
    replace H : (mortmainlaw06_StoreSets.j0 k a1 (!t192) l0_0 a0_1 a0_2 a2_0 a2_1 a2_2 a2_3 a2_4 l2_5) = some r := H
    have A14 := Aside0.mk A140
    clear A140
    have H' := Aside0.mk H
    clear H
    have hnb15 := NB189_190.out
    have hnc15 := NB190_189.out
    have hcz16_0 : w6.cell? ⟨gb189, 0, none⟩ = some (.slice A0_0 l0_0.length c0_0) := (blk_cell BK189.out 0).trans rfl
    have hcz16_1 : w6.cell? ⟨gb189, 1, none⟩ = some (.int .i64 a0_1) := (blk_cell BK189.out 1).trans rfl
    have hcz16_2 : w6.cell? ⟨gb189, 2, none⟩ = some (.int .i64 a0_2) := (blk_cell BK189.out 2).trans rfl
    have hfz16_0 := blk_frozen BK189.out 0
    have hfz16_1 := blk_frozen BK189.out 1
    have hfz16_2 := blk_frozen BK189.out 2
    go_wp2_with (first | ((with_reducible refine gate_callee (f := 15) rfl ?_); refine goesL_ (some 16) rfl rfl Try.func15 (by kernel_rfl) rfl #[.agg #[.slice A0_0 l0_0.length c0_0, .int .i64 a0_1, .int .i64 a0_2]] rfl mT ?_; (with_reducible refine (mortmainlaw06_right.calls k _ _ l0_0 a0_1 a0_2 true _ ?side1 ?side2 A7.out).mono ?_); (case side1 => repeat (first | exact (Kd.C_below HR0_0.out HB.out) | (with_reducible refine Kd.C_alloc ?_ _) | (with_reducible refine Kd.C_drewN ?_ _) | (with_reducible refine Kd.C_drew ?_))); (case side2 => exact HC0_0.out); rintro e w17 ⟨rfl, hb⟩; refine ⟨_, rfl, ?_⟩; have n0_ := Aside0.mk (blk_below (g := gb189) (o := .cells #[.slice A0_0 l0_0.length c0_0, .int .i64 a0_1, .int .i64 a0_2] 26 (0, 0)) (kT BK189.out) hb); have n1_ := Aside0.mk (blk_below (g := gb190) (o := .cells #[.int .i64 a2_0, .int .i64 a2_1, .int .i64 a2_2, .int .i64 a2_3, .bool a2_4, .slice A2_5 l2_5.length c2_5] 29 (0, 0)) (kT BK190.out) hb); have n2_ := Aside0.mk (below_step (bH GE189.out GE190.out) hb); clear BK189; clear BK190; clear HB; have BK189 := n0_; have BK190 := n1_; have HB := n2_; clear n0_ n1_ n2_; (try clear hb); (try clear hb2); (try clear hk); (try clear hi); have hcz18_0 : w17.cell? ⟨gb190, 0, none⟩ = some (.int .i64 a2_0) := (blk_cell BK190.out 0).trans rfl; have hcz18_1 : w17.cell? ⟨gb190, 1, none⟩ = some (.int .i64 a2_1) := (blk_cell BK190.out 1).trans rfl; have hcz18_2 : w17.cell? ⟨gb190, 2, none⟩ = some (.int .i64 a2_2) := (blk_cell BK190.out 2).trans rfl; have hcz18_3 : w17.cell? ⟨gb190, 3, none⟩ = some (.int .i64 a2_3) := (blk_cell BK190.out 3).trans rfl; have hcz18_4 : w17.cell? ⟨gb190, 4, none⟩ = some (.bool a2_4) := (blk_cell BK190.out 4).trans rfl; have hcz18_5 : w17.cell? ⟨gb190, 5, none⟩ = some (.slice A2_5 l2_5.length c2_5) := (blk_cell BK190.out 5).trans rfl; have hfz18_0 := blk_frozen BK190.out 0; have hfz18_1 := blk_frozen BK190.out 1; have hfz18_2 := blk_frozen BK190.out 2; have hfz18_3 := blk_frozen BK190.out 3; have hfz18_4 := blk_frozen BK190.out 4; have hfz18_5 := blk_frozen BK190.out 5) | (go_at_call 16; (with_reducible refine (mortmainlaw06_shown.calls  t192 _ A14.out).mono ?_); rintro e w19 ⟨rfl, hb⟩; have n0_ := Aside0.mk (blk_below (g := gb189) (o := .cells #[.slice A0_0 l0_0.length c0_0, .int .i64 a0_1, .int .i64 a0_2] 26 (0, 0)) (kT BK189.out) hb); have n1_ := Aside0.mk (blk_below (g := gb190) (o := .cells #[.int .i64 a2_0, .int .i64 a2_1, .int .i64 a2_2, .int .i64 a2_3, .bool a2_4, .slice A2_5 l2_5.length c2_5] 29 (0, 0)) (kT BK190.out) hb); have n2_ := Aside0.mk (below_step (bH GE189.out GE190.out) hb); clear BK189; clear BK190; clear HB; have BK189 := n0_; have BK190 := n1_; have HB := n2_; clear n0_ n1_ n2_; (try clear hb); (try clear hb2); (try clear hk); (try clear hi)))
    go_meet
    case rel => exact ⟨_, (!t192), (by first | rfl | (simp; done) | (simp [*]; done)), H', ⟨by first | omega | exact Nat.le_refl _⟩, ⟨by (with_reducible repeat (first | refine blk_drewN ?_ _ | refine blk_drew ?_ | refine blk_alloc ?_ _)); exact BK189.out⟩, ⟨by (with_reducible repeat (first | refine blk_drewN ?_ _ | refine blk_drew ?_ | refine blk_alloc ?_ _)); exact BK190.out⟩, ⟨by repeat (first | (with_reducible first | exact HB.out | apply below_alloc | apply pw_below_drewN | apply below_drew1 | refine below_set ?_ GE189.out | refine below_set ?_ GE190.out) | exact HB.out)⟩⟩
  ·replace c8 := Bool.eq_false_iff.mpr c8
   subst c8
   have H1 : (mortmainlaw06_StoreSets.j0 k a1 true l0_0 a0_1 a0_2 a2_0 a2_1 a2_2 a2_3 a2_4 l2_5) = some r := by rw [if_neg (show ¬ (false = true) by decide)] at H; exact H
   clear H
   have H := H1
   clear H1
   have H' := Aside0.mk H
   clear H
   have hnb20 := NB189_190.out
   have hnc20 := NB190_189.out
   have hcz21_0 : w6.cell? ⟨gb189, 0, none⟩ = some (.slice A0_0 l0_0.length c0_0) := (blk_cell BK189.out 0).trans rfl
   have hcz21_1 : w6.cell? ⟨gb189, 1, none⟩ = some (.int .i64 a0_1) := (blk_cell BK189.out 1).trans rfl
   have hcz21_2 : w6.cell? ⟨gb189, 2, none⟩ = some (.int .i64 a0_2) := (blk_cell BK189.out 2).trans rfl
   have hfz21_0 := blk_frozen BK189.out 0
   have hfz21_1 := blk_frozen BK189.out 1
   have hfz21_2 := blk_frozen BK189.out 2
   go_wp2_with (first | ((with_reducible refine gate_callee (f := 15) rfl ?_); refine goesL_ (some 16) rfl rfl Try.func15 (by kernel_rfl) rfl #[.agg #[.slice A0_0 l0_0.length c0_0, .int .i64 a0_1, .int .i64 a0_2]] rfl mT ?_; (with_reducible refine (mortmainlaw06_right.calls k _ _ l0_0 a0_1 a0_2 false _ ?side1 ?side2 A7.out).mono ?_); (case side1 => repeat (first | exact (Kd.C_below HR0_0.out HB.out) | (with_reducible refine Kd.C_alloc ?_ _) | (with_reducible refine Kd.C_drewN ?_ _) | (with_reducible refine Kd.C_drew ?_))); (case side2 => exact HC0_0.out); rintro e w22 ⟨rfl, hb⟩; refine ⟨_, rfl, ?_⟩; have n0_ := Aside0.mk (blk_below (g := gb189) (o := .cells #[.slice A0_0 l0_0.length c0_0, .int .i64 a0_1, .int .i64 a0_2] 26 (0, 0)) (kT BK189.out) hb); have n1_ := Aside0.mk (blk_below (g := gb190) (o := .cells #[.int .i64 a2_0, .int .i64 a2_1, .int .i64 a2_2, .int .i64 a2_3, .bool a2_4, .slice A2_5 l2_5.length c2_5] 29 (0, 0)) (kT BK190.out) hb); have n2_ := Aside0.mk (below_step (bH GE189.out GE190.out) hb); clear BK189; clear BK190; clear HB; have BK189 := n0_; have BK190 := n1_; have HB := n2_; clear n0_ n1_ n2_; (try clear hb); (try clear hb2); (try clear hk); (try clear hi)))
   go_meet
   case rel => exact ⟨_, (true), (by first | rfl | (simp; done) | (simp [*]; done)), H', ⟨by first | omega | exact Nat.le_refl _⟩, ⟨by (with_reducible repeat (first | refine blk_drewN ?_ _ | refine blk_drew ?_ | refine blk_alloc ?_ _)); exact BK189.out⟩, ⟨by (with_reducible repeat (first | refine blk_drewN ?_ _ | refine blk_drew ?_ | refine blk_alloc ?_ _)); exact BK190.out⟩, ⟨by repeat (first | (with_reducible first | exact HB.out | apply below_alloc | apply pw_below_drewN | apply below_drew1 | refine below_set ?_ GE189.out | refine below_set ?_ GE190.out) | exact HB.out)⟩⟩
 case rest =>
  clear HC4
  try clear c1
  try clear c2
  try clear p2
  try clear c3
  try clear c8
  try clear c9
  try clear c9b0
  try clear c9b1
  try clear c10
  try clear c15
  try clear c20
  try clear hcz11_0
  try clear hcz11_1
  try clear hcz11_2
  try clear hcz13_0
  try clear hcz13_1
  try clear hcz13_2
  try clear hcz13_3
  try clear hcz13_4
  try clear hcz13_5
  try clear hcz16_0
  try clear hcz16_1
  try clear hcz16_2
  try clear hcz18_0
  try clear hcz18_1
  try clear hcz18_2
  try clear hcz18_3
  try clear hcz18_4
  try clear hcz18_5
  try clear hcz21_0
  try clear hcz21_1
  try clear hcz21_2
  try clear hfz11_0
  try clear hfz11_1
  try clear hfz11_2
  try clear hfz13_0
  try clear hfz13_1
  try clear hfz13_2
  try clear hfz13_3
  try clear hfz13_4
  try clear hfz13_5
  try clear hfz16_0
  try clear hfz16_1
  try clear hfz16_2
  try clear hfz18_0
  try clear hfz18_1
  try clear hfz18_2
  try clear hfz18_3
  try clear hfz18_4
  try clear hfz18_5
  try clear hfz21_0
  try clear hfz21_1
  try clear hfz21_2
  obtain ⟨kq, x27_3, rfl, HA, HJ3, BK189, BK190, HB⟩ := hcut
  cases kq with
  | zero => exact absurd HA.out (by simp [mortmainlaw06_StoreSets.j0])
  | succ kj3 =>
   have H := HA.out
   clear HA
   simp only [mortmainlaw06_StoreSets.j0] at H
   by_cases c23 : x27_3 = true
   ·subst c23
    have H1 : ((mortmainlaw06_shown.f).bind fun t193 => (some t193)) = some r := by rw [if_pos rfl] at H; exact H
    clear H
    have H := H1
    clear H1
    replace H := Option.bind_eq_some_iff.mp H
    obtain ⟨t193, A240, H⟩ := H
    replace H : (some t193) = some r := H
    have A24 := Aside0.mk A240
    clear A240
    obtain rfl := Option.some.inj H
    go_wp2_with (first | ((with_reducible refine gate_callee (f := 16) rfl ?_); refine goesL_ (some 28) rfl rfl Try.func16 (by kernel_rfl) rfl #[] rfl mT ?_; (with_reducible refine (mortmainlaw06_shown.calls  t193 _ A24.out).mono ?_); rintro e w25 ⟨rfl, hb⟩; refine ⟨_, rfl, ?_⟩; have n0_ := Aside0.mk (blk_below (g := gb189) (o := .cells #[.slice A0_0 l0_0.length c0_0, .int .i64 a0_1, .int .i64 a0_2] 26 (0, 0)) (kT BK189.out) hb); have n1_ := Aside0.mk (blk_below (g := gb190) (o := .cells #[.int .i64 a2_0, .int .i64 a2_1, .int .i64 a2_2, .int .i64 a2_3, .bool a2_4, .slice A2_5 l2_5.length c2_5] 29 (0, 0)) (kT BK190.out) hb); have n2_ := Aside0.mk (below_step (bH GE189.out GE190.out) hb); clear BK189; clear BK190; clear HB; have BK189 := n0_; have BK190 := n1_; have HB := n2_; clear n0_ n1_ n2_; (try clear hb); (try clear hb2); (try clear hk); (try clear hi)))
    go_ret
    exact ⟨by first | rfl | (simp [errW_none, errW_some] <;> rfl) | (simp [*, errW_none, errW_some] <;> rfl), by repeat (first | (with_reducible first | exact HB.out | apply below_alloc | apply pw_below_drewN | apply below_drew1 | refine below_set ?_ GE189.out | refine below_set ?_ GE190.out) | exact HB.out)⟩
   ·replace c23 := Bool.eq_false_iff.mpr c23
    subst c23
    have H1 : ((store_Set.f l0_0 a0_1 a0_2 a1 a2_0 a2_1 a2_2 a2_3 a2_4 l2_5).bind fun bt194 => ((mortmainlaw06_its.f kj3 l0_0 a0_1 a0_2).bind fun bt201 => ((mortmainlaw06_obj.f a2_0 a2_1 a2_2 a2_3 a2_4 l2_5).bind fun bt206 => ((mortmainref06_Set.f kj3 bt201.1 bt201.2.1 bt201.2.2 a1 bt206.1 bt206.2.1 bt206.2.2.1 bt206.2.2.2.1 bt206.2.2.2.2.1 bt206.2.2.2.2.2).bind fun bt214 => ((mortmainlaw06_its.f kj3 bt194.1 bt194.2.1 bt194.2.2.1).bind fun bt221 => ((mortmainref06_Same.f kj3 bt221.1 bt221.2.1 bt221.2.2 bt214.1 bt214.2.1 bt214.2.2.1).bind fun t226 => (if t226 = true then (mortmainlaw06_StoreSets.j1 kj3 a1 (bt194.2.2.2 != bt214.2.2.2) l0_0 a0_1 a0_2 a2_0 a2_1 a2_2 a2_3 a2_4 l2_5 bt194.1 bt194.2.1 bt194.2.2.1 bt214.1 bt214.2.1 bt214.2.2.1) else (none)))))))) = some r := by rw [if_neg (show ¬ (false = true) by decide)] at H; exact H
    clear H
    have H := H1
    clear H1
    replace H := Option.bind_eq_some_iff.mp H
    obtain ⟨⟨t194, t197, t198, t199⟩, A260, H⟩ := H
    replace H : ((mortmainlaw06_its.f kj3 l0_0 a0_1 a0_2).bind fun bt201 => ((mortmainlaw06_obj.f a2_0 a2_1 a2_2 a2_3 a2_4 l2_5).bind fun bt206 => ((mortmainref06_Set.f kj3 bt201.1 bt201.2.1 bt201.2.2 a1 bt206.1 bt206.2.1 bt206.2.2.1 bt206.2.2.2.1 bt206.2.2.2.2.1 bt206.2.2.2.2.2).bind fun bt214 => ((mortmainlaw06_its.f kj3 t194 t197 t198).bind fun bt221 => ((mortmainref06_Same.f kj3 bt221.1 bt221.2.1 bt221.2.2 bt214.1 bt214.2.1 bt214.2.2.1).bind fun t226 => (if t226 = true then (mortmainlaw06_StoreSets.j1 kj3 a1 (t199 != bt214.2.2.2) l0_0 a0_1 a0_2 a2_0 a2_1 a2_2 a2_3 a2_4 l2_5 t194 t197 t198 bt214.1 bt214.2.1 bt214.2.2.1) else (none))))))) = some r := H
    have A26 := Aside0.mk A260
    clear A260
    replace H := Option.bind_eq_some_iff.mp H
    obtain ⟨⟨t201, t204, t205⟩, A270, H⟩ := H
    replace H : ((mortmainlaw06_obj.f a2_0 a2_1 a2_2 a2_3 a2_4 l2_5).bind fun bt206 => ((mortmainref06_Set.f kj3 t201 t204 t205 a1 bt206.1 bt206.2.1 bt206.2.2.1 bt206.2.2.2.1 bt206.2.2.2.2.1 bt206.2.2.2.2.2).bind fun bt214 => ((mortmainlaw06_its.f kj3 t194 t197 t198).bind fun bt221 => ((mortmainref06_Same.f kj3 bt221.1 bt221.2.1 bt221.2.2 bt214.1 bt214.2.1 bt214.2.2.1).bind fun t226 => (if t226 = true then (mortmainlaw06_StoreSets.j1 kj3 a1 (t199 != bt214.2.2.2) l0_0 a0_1 a0_2 a2_0 a2_1 a2_2 a2_3 a2_4 l2_5 t194 t197 t198 bt214.1 bt214.2.1 bt214.2.2.1) else (none)))))) = some r := H
    have A27 := Aside0.mk A270
    clear A270
    replace H := Option.bind_eq_some_iff.mp H
    obtain ⟨⟨t206, t207, t208, t209, t210, t211⟩, A280, H⟩ := H
    replace H : ((mortmainref06_Set.f kj3 t201 t204 t205 a1 t206 t207 t208 t209 t210 t211).bind fun bt214 => ((mortmainlaw06_its.f kj3 t194 t197 t198).bind fun bt221 => ((mortmainref06_Same.f kj3 bt221.1 bt221.2.1 bt221.2.2 bt214.1 bt214.2.1 bt214.2.2.1).bind fun t226 => (if t226 = true then (mortmainlaw06_StoreSets.j1 kj3 a1 (t199 != bt214.2.2.2) l0_0 a0_1 a0_2 a2_0 a2_1 a2_2 a2_3 a2_4 l2_5 t194 t197 t198 bt214.1 bt214.2.1 bt214.2.2.1) else (none))))) = some r := H
    have A28 := Aside0.mk A280
    clear A280
    replace H := Option.bind_eq_some_iff.mp H
    obtain ⟨⟨t214, t217, t218, t219⟩, A290, H⟩ := H
    replace H : ((mortmainlaw06_its.f kj3 t194 t197 t198).bind fun bt221 => ((mortmainref06_Same.f kj3 bt221.1 bt221.2.1 bt221.2.2 t214 t217 t218).bind fun t226 => (if t226 = true then (mortmainlaw06_StoreSets.j1 kj3 a1 (t199 != t219) l0_0 a0_1 a0_2 a2_0 a2_1 a2_2 a2_3 a2_4 l2_5 t194 t197 t198 t214 t217 t218) else (none)))) = some r := H
    have A29 := Aside0.mk A290
    clear A290
    have HC30 := Aside0.mk H
    clear H
    have hnb31 := NB189_190.out
    have hnc31 := NB190_189.out
    have hcz32_0 : wc.cell? ⟨gb189, 0, none⟩ = some (.slice A0_0 l0_0.length c0_0) := (blk_cell BK189.out 0).trans rfl
    have hcz32_1 : wc.cell? ⟨gb189, 1, none⟩ = some (.int .i64 a0_1) := (blk_cell BK189.out 1).trans rfl
    have hcz32_2 : wc.cell? ⟨gb189, 2, none⟩ = some (.int .i64 a0_2) := (blk_cell BK189.out 2).trans rfl
    have hfz32_0 := blk_frozen BK189.out 0
    have hfz32_1 := blk_frozen BK189.out 1
    have hfz32_2 := blk_frozen BK189.out 2
    have hcz33_0 : wc.cell? ⟨gb190, 0, none⟩ = some (.int .i64 a2_0) := (blk_cell BK190.out 0).trans rfl
    have hcz33_1 : wc.cell? ⟨gb190, 1, none⟩ = some (.int .i64 a2_1) := (blk_cell BK190.out 1).trans rfl
    have hcz33_2 : wc.cell? ⟨gb190, 2, none⟩ = some (.int .i64 a2_2) := (blk_cell BK190.out 2).trans rfl
    have hcz33_3 : wc.cell? ⟨gb190, 3, none⟩ = some (.int .i64 a2_3) := (blk_cell BK190.out 3).trans rfl
    have hcz33_4 : wc.cell? ⟨gb190, 4, none⟩ = some (.bool a2_4) := (blk_cell BK190.out 4).trans rfl
    have hcz33_5 : wc.cell? ⟨gb190, 5, none⟩ = some (.slice A2_5 l2_5.length c2_5) := (blk_cell BK190.out 5).trans rfl
    have hfz33_0 := blk_frozen BK190.out 0
    have hfz33_1 := blk_frozen BK190.out 1
    have hfz33_2 := blk_frozen BK190.out 2
    have hfz33_3 := blk_frozen BK190.out 3
    have hfz33_4 := blk_frozen BK190.out 4
    have hfz33_5 := blk_frozen BK190.out 5
    try go_wp2_with (first | ((with_reducible refine gate_callee (f := 17) rfl ?_); refine goesL_ (some 33) rfl rfl Try.func17 (by kernel_rfl) rfl #[.agg #[.slice A0_0 l0_0.length c0_0, .int .i64 a0_1, .int .i64 a0_2], .int .i64 a1, .agg #[.int .i64 a2_0, .int .i64 a2_1, .int .i64 a2_2, .int .i64 a2_3, .bool a2_4, .slice A2_5 l2_5.length c2_5]] rfl mT ?_; (with_reducible refine (store_Set.calls (fun k_ => k_ < w.heap.size) _ _ l0_0 a0_1 a0_2 a1 a2_0 a2_1 a2_2 a2_3 a2_4 (fun k_ => k_ < w.heap.size) _ _ l2_5 t194 t197 t198 t199 _ ?side1 ?side2 A26.out).mono ?_); (case side1 => exact Kd.V_mk HC0_0.out (Kd.F_below (Kd.C_F k82_heap HR0_0.out) (bH GE189.out GE190.out))); (case side2 => exact Kd.V_mk HC2_5.out (Kd.F_below (Kd.C_F (Kd.heap_int .i64) HR2_5.out) (bH GE189.out GE190.out))); rintro e w34 ⟨v195, rfl, ho0, hb⟩; refine ⟨_, rfl, ?_⟩; have n0_ := Aside0.mk (Kd.V_lower (Kd.V_mono (ok' := fun k_ => k_ ≠ gb189 ∧ k_ ≠ gb190) ho0 (fun k_ hk_ => ⟨Or.elim hk_ (fun hs_ => Or.elim hs_ (fun hs_ => fun e_ => Nat.not_le.2 hs_ (by rw [e_]; exact GW189.out)) (fun hs_ => fun e_ => Nat.not_le.2 hs_ (by rw [e_]; exact GW189.out))) (fun hn_ => (Kd.freshB (g := gb189) (o := .cells #[.slice A0_0 l0_0.length c0_0, .int .i64 a0_1, .int .i64 a0_2] 26 (0, 0)) (kT BK189.out) k_ hn_)), Or.elim hk_ (fun hs_ => Or.elim hs_ (fun hs_ => fun e_ => Nat.not_le.2 hs_ (by rw [e_]; exact GW190.out)) (fun hs_ => fun e_ => Nat.not_le.2 hs_ (by rw [e_]; exact GW190.out))) (fun hn_ => (Kd.freshB (g := gb190) (o := .cells #[.int .i64 a2_0, .int .i64 a2_1, .int .i64 a2_2, .int .i64 a2_3, .bool a2_4, .slice A2_5 l2_5.length c2_5] 29 (0, 0)) (kT BK190.out) k_ hn_))⟩)) (below_size (bH GE189.out GE190.out))); have n1_ := Aside0.mk (blk_below (g := gb189) (o := .cells #[.slice A0_0 l0_0.length c0_0, .int .i64 a0_1, .int .i64 a0_2] 26 (0, 0)) (kT BK189.out) hb); have n2_ := Aside0.mk (blk_below (g := gb190) (o := .cells #[.int .i64 a2_0, .int .i64 a2_1, .int .i64 a2_2, .int .i64 a2_3, .bool a2_4, .slice A2_5 l2_5.length c2_5] 29 (0, 0)) (kT BK190.out) hb); have n3_ := Aside0.mk (below_step (bH GE189.out GE190.out) hb); clear BK189; clear BK190; clear HB; have HO196 := n0_; have BK189 := n1_; have BK190 := n2_; have HB := n3_; clear n0_ n1_ n2_ n3_; (try clear hb); (try clear hb2); (try clear hk); (try clear hi); (try clear ho0)) | ((with_reducible refine gate_dst (N := 7) rfl ?_); (try (refine gate_guard (by rfl) ?_; dsimp only)); refine box_event ?hg (N := 7) ?hd (cs := #[.slice none 0 0, .int .i64 0, .int .i64 0]) (t := 26) ?hr ?_; (case hd => rfl); (case hg => rfl); (case hr => first | (go_simp; done) | (go_simp; rfl)); intro gb200 hg w35 hbox hb; have n0_ := Aside0.mk (Kd.V_below (Kd.V_elderB (by (with_reducible repeat (first | apply Kd.V_alloc | apply Kd.V_drewN | apply Kd.V_drew)); exact HO196.out) gb200 (Nat.le_of_eq hg.symm)) hb); have n1_ := Aside0.mk (blk_below (g := gb189) (o := .cells #[.slice A0_0 l0_0.length c0_0, .int .i64 a0_1, .int .i64 a0_2] 26 (0, 0)) (kT BK189.out) hb); have n2_ := Aside0.mk (blk_below (g := gb190) (o := .cells #[.int .i64 a2_0, .int .i64 a2_1, .int .i64 a2_2, .int .i64 a2_3, .bool a2_4, .slice A2_5 l2_5.length c2_5] 29 (0, 0)) (kT BK190.out) hb); have n3_ := Aside0.mk (below_step (bH GE189.out GE190.out) hb); have n4_ := Aside0.mk (hbox); have n5_ := Aside0.mk (gT hg (bH GE189.out GE190.out)); have n6_ := Aside0.mk (gT hg (bH GE189.out GE190.out)); have n7_ := Aside0.mk ((by rw [hg]; exact Nat.ne_of_lt (blk_lt (g := gb189) (o := .cells #[.slice A0_0 l0_0.length c0_0, .int .i64 a0_1, .int .i64 a0_2] 26 (0, 0)) (kT BK189.out)) : gb189 ≠ gb200)); have n8_ := Aside0.mk ((by rw [hg]; exact Nat.ne_of_gt (blk_lt (g := gb189) (o := .cells #[.slice A0_0 l0_0.length c0_0, .int .i64 a0_1, .int .i64 a0_2] 26 (0, 0)) (kT BK189.out)) : gb200 ≠ gb189)); have n9_ := Aside0.mk ((by rw [hg]; exact Nat.ne_of_lt (blk_lt (g := gb190) (o := .cells #[.int .i64 a2_0, .int .i64 a2_1, .int .i64 a2_2, .int .i64 a2_3, .bool a2_4, .slice A2_5 l2_5.length c2_5] 29 (0, 0)) (kT BK190.out)) : gb190 ≠ gb200)); have n10_ := Aside0.mk ((by rw [hg]; exact Nat.ne_of_gt (blk_lt (g := gb190) (o := .cells #[.int .i64 a2_0, .int .i64 a2_1, .int .i64 a2_2, .int .i64 a2_3, .bool a2_4, .slice A2_5 l2_5.length c2_5] 29 (0, 0)) (kT BK190.out)) : gb200 ≠ gb190)); clear HO196; clear BK189; clear BK190; clear HB; have HO196 := n0_; have BK189 := n1_; have BK190 := n2_; have HB := n3_; have BK200 := n4_; have GW200 := n5_; have GE200 := n6_; have NB189_200 := n7_; have NB200_189 := n8_; have NB190_200 := n9_; have NB200_190 := n10_; clear n0_ n1_ n2_ n3_ n4_ n5_ n6_ n7_ n8_ n9_ n10_; clear hb hbox hg; obtain ⟨Ao36, co36, eo36⟩ := Kd.V_slice HO196.out; subst eo36; have hnb37 := NB200_189.out; have hnc37 := NB189_200.out; have hnb38 := NB200_190.out; have hnc38 := NB190_200.out; have hcz39_0 : w35.cell? ⟨gb200, 0, none⟩ = some (.slice none 0 0) := (blk_cell BK200.out 0).trans rfl; have hcz39_1 : w35.cell? ⟨gb200, 1, none⟩ = some (.int .i64 0) := (blk_cell BK200.out 1).trans rfl; have hcz39_2 : w35.cell? ⟨gb200, 2, none⟩ = some (.int .i64 0) := (blk_cell BK200.out 2).trans rfl; have hfz39_0 := blk_frozen BK200.out 0; have hfz39_1 := blk_frozen BK200.out 1; have hfz39_2 := blk_frozen BK200.out 2))
    have n0_ : Aside0 (Kd.V k82 82 (((w35.setCell ⟨gb200, 0, none⟩ (.slice Ao36 t194.length co36)).setCell ⟨gb200, 1, none⟩ (.int .i64 t197)).setCell ⟨gb200, 2, none⟩ (.int .i64 t198)) w.heap.size (fun k_ => k_ ≠ gb189 ∧ k_ ≠ gb190 ∧ k_ ≠ gb200) (.slice Ao36 t194.length co36) t194) := ⟨by (with_reducible repeat (first | apply Kd.V_alloc | apply Kd.V_drewN | apply Kd.V_drew)); exact Kd.V_mono (Kd.V_far (p := ⟨gb200, 2, none⟩) (Kd.V_far (p := ⟨gb200, 1, none⟩) (Kd.V_far (p := ⟨gb200, 0, none⟩) (Kd.V_mono HO196.out (fun k_ hk => (⟨hk, hk.2⟩ : _ ∧ k_ ≠ gb200))) (fun _ hk => hk.2) (.slice Ao36 t194.length co36)) (fun _ hk => hk.2) (.int .i64 t197)) (fun _ hk => hk.2) (.int .i64 t198)) (fun _ hk => ⟨hk.1.1.1, ⟨hk.1.1.2, hk.1.2⟩⟩)⟩
    have n1_ : Aside0 ((((w35.setCell ⟨gb200, 0, none⟩ (.slice Ao36 t194.length co36)).setCell ⟨gb200, 1, none⟩ (.int .i64 t197)).setCell ⟨gb200, 2, none⟩ (.int .i64 t198)).heap[gb189]? = some (.cells #[.slice A0_0 l0_0.length c0_0, .int .i64 a0_1, .int .i64 a0_2] 26 (0, 0))) := ⟨by (with_reducible repeat (first | refine blk_drewN ?_ _ | refine blk_drew ?_ | refine blk_alloc ?_ _)); refine blk_far ?_ NB189_200.out _; (with_reducible repeat (first | refine blk_drewN ?_ _ | refine blk_drew ?_ | refine blk_alloc ?_ _)); refine blk_far ?_ NB189_200.out _; (with_reducible repeat (first | refine blk_drewN ?_ _ | refine blk_drew ?_ | refine blk_alloc ?_ _)); refine blk_far ?_ NB189_200.out _; (with_reducible repeat (first | refine blk_drewN ?_ _ | refine blk_drew ?_ | refine blk_alloc ?_ _)); exact BK189.out⟩
    have n2_ : Aside0 ((((w35.setCell ⟨gb200, 0, none⟩ (.slice Ao36 t194.length co36)).setCell ⟨gb200, 1, none⟩ (.int .i64 t197)).setCell ⟨gb200, 2, none⟩ (.int .i64 t198)).heap[gb190]? = some (.cells #[.int .i64 a2_0, .int .i64 a2_1, .int .i64 a2_2, .int .i64 a2_3, .bool a2_4, .slice A2_5 l2_5.length c2_5] 29 (0, 0))) := ⟨by (with_reducible repeat (first | refine blk_drewN ?_ _ | refine blk_drew ?_ | refine blk_alloc ?_ _)); refine blk_far ?_ NB190_200.out _; (with_reducible repeat (first | refine blk_drewN ?_ _ | refine blk_drew ?_ | refine blk_alloc ?_ _)); refine blk_far ?_ NB190_200.out _; (with_reducible repeat (first | refine blk_drewN ?_ _ | refine blk_drew ?_ | refine blk_alloc ?_ _)); refine blk_far ?_ NB190_200.out _; (with_reducible repeat (first | refine blk_drewN ?_ _ | refine blk_drew ?_ | refine blk_alloc ?_ _)); exact BK190.out⟩
    have n3_ : Aside0 ((((w35.setCell ⟨gb200, 0, none⟩ (.slice Ao36 t194.length co36)).setCell ⟨gb200, 1, none⟩ (.int .i64 t197)).setCell ⟨gb200, 2, none⟩ (.int .i64 t198)).heap[gb200]? = some (.cells #[.slice Ao36 t194.length co36, .int .i64 t197, .int .i64 t198] 26 (0, 0))) := ⟨by (with_reducible repeat (first | refine blk_drewN ?_ _ | refine blk_drew ?_ | refine blk_alloc ?_ _)); refine blk_put (cs := #[.slice Ao36 t194.length co36, .int .i64 t197, .int .i64 0]) ?_ 2 _ rfl; (with_reducible repeat (first | refine blk_drewN ?_ _ | refine blk_drew ?_ | refine blk_alloc ?_ _)); refine blk_put (cs := #[.slice Ao36 t194.length co36, .int .i64 0, .int .i64 0]) ?_ 1 _ rfl; (with_reducible repeat (first | refine blk_drewN ?_ _ | refine blk_drew ?_ | refine blk_alloc ?_ _)); refine blk_put (cs := #[.slice none 0 0, .int .i64 0, .int .i64 0]) ?_ 0 _ rfl; (with_reducible repeat (first | refine blk_drewN ?_ _ | refine blk_drew ?_ | refine blk_alloc ?_ _)); exact BK200.out⟩
    have n4_ : Aside0 (Below w.heap.size w (((w35.setCell ⟨gb200, 0, none⟩ (.slice Ao36 t194.length co36)).setCell ⟨gb200, 1, none⟩ (.int .i64 t197)).setCell ⟨gb200, 2, none⟩ (.int .i64 t198))) := ⟨by repeat (first | (with_reducible first | exact HB.out | apply below_alloc | apply pw_below_drewN | apply below_drew1 | refine below_set ?_ GE189.out | refine below_set ?_ GE190.out | refine below_set ?_ GE200.out) | exact HB.out)⟩
    (try clear HO196)
    (try clear BK189)
    (try clear BK190)
    (try clear BK200)
    (try clear HB)
    generalize (((w35.setCell ⟨gb200, 0, none⟩ (.slice Ao36 t194.length co36)).setCell ⟨gb200, 1, none⟩ (.int .i64 t197)).setCell ⟨gb200, 2, none⟩ (.int .i64 t198)) = w40 at n0_ n1_ n2_ n3_ n4_ ⊢
    have HO196 := n0_
    have BK189 := n1_
    have BK190 := n2_
    have BK200 := n3_
    have HB := n4_
    clear n0_ n1_ n2_ n3_ n4_
    have n0_ := Aside0.mk (Kd.V_drew HO196.out)
    have n1_ := Aside0.mk (blk_drew BK189.out)
    have n2_ := Aside0.mk (blk_drew BK190.out)
    have n3_ := Aside0.mk (blk_drew BK200.out)
    have n4_ := Aside0.mk (below_drew1 HB.out)
    clear HO196
    clear BK189
    clear BK190
    clear BK200
    clear HB
    have HO196 := n0_
    have BK189 := n1_
    have BK190 := n2_
    have BK200 := n3_
    have HB := n4_
    clear n0_ n1_ n2_ n3_ n4_
    refine start_ (n := 12) (S := fun w' => w'.cell? ⟨gb189, 0, none⟩ = some (.slice A0_0 l0_0.length c0_0) ∧ w'.cell? ⟨gb189, 1, none⟩ = some (.int .i64 a0_1) ∧ w'.cell? ⟨gb189, 2, none⟩ = some (.int .i64 a0_2) ∧ w'.cell? ⟨gb190, 0, none⟩ = some (.int .i64 a2_0) ∧ w'.cell? ⟨gb190, 1, none⟩ = some (.int .i64 a2_1) ∧ w'.cell? ⟨gb190, 2, none⟩ = some (.int .i64 a2_2) ∧ w'.cell? ⟨gb190, 3, none⟩ = some (.int .i64 a2_3) ∧ w'.cell? ⟨gb190, 4, none⟩ = some (.bool a2_4) ∧ w'.cell? ⟨gb190, 5, none⟩ = some (.slice A2_5 l2_5.length c2_5)) (ds := []) (bA 12 0) (by kernel_rfl) rfl rfl ⟨(blk_cell BK189.out 0).trans rfl, (blk_cell BK189.out 1).trans rfl, (blk_cell BK189.out 2).trans rfl, (blk_cell BK190.out 0).trans rfl, (blk_cell BK190.out 1).trans rfl, (blk_cell BK190.out 2).trans rfl, (blk_cell BK190.out 3).trans rfl, (blk_cell BK190.out 4).trans rfl, (blk_cell BK190.out 5).trans rfl⟩ (fun hHeld => ?_); refine with_tabW mortmainlaw06_StoreSets.tab4 mortmainlaw06_StoreSets.bits4 (fun HT_ HW_ => ?_)
    generalize w40.drew = w41 at HO196 BK189 BK190 BK200 HB hHeld ⊢
    refine pure_ (i := 2) (N := some 39) (v := ?_) (a' := ?_) (bA 12 4) rfl rfl (an_ HT_.out) (fun _ _ _ h => h) (Or.inl ⟨by rfl, ?_⟩) ?_ ?_
    rotate_left
    ·intro w'
     go_simp
     with_reducible rfl
    rotate_left
    ·simp only [Act.put, q1, q2, q3, i64_w, i32_w]
     rfl
    refine take_ (i := 0) (N := some 37) (v := ?_) (a' := ?_) (bA 12 5) rfl rfl (tw_ HT_.out HW_.out) (fun _ _ _ h => h) (Or.inl ⟨by rfl, ?_⟩) hHeld ?_ ?_
    rotate_left
    ·rintro w' ⟨s0, s1, s2, s3, s4, s5, s6, s7, s8⟩
     go_simp
     with_reducible rfl
    rotate_left
    ·simp only [Act.put, q1, q2, q3, i64_w, i32_w]
     rfl
    refine take_ (i := 3) (N := some 40) (v := ?_) (a' := ?_) (bA 12 13) rfl rfl (tw_ HT_.out HW_.out) (fun _ _ _ h => h) (Or.inl ⟨by rfl, ?_⟩) hHeld ?_ ?_
    rotate_left
    ·rintro w' ⟨s0, s1, s2, s3, s4, s5, s6, s7, s8⟩
     go_simp
     with_reducible rfl
    rotate_left
    ·simp only [Act.put, q1, q2, q3, i64_w, i32_w]
     rfl
    refine join_ (σ := Value × Value × Value × Nat) 2 (bA 12 1023) (fun s_ => [(38, .agg #[s_.1, .int .i64 t204, .int .i64 t205]), (41, .agg #[.int .i64 t206, .int .i64 t207, .int .i64 t208, .int .i64 t209, .bool t210, s_.2.1]), (42, .tuple #[.agg #[s_.2.2.1, .int .i64 t217, .int .i64 t218], .int .i64 t219]), (9, .pointer (some ⟨s_.2.2.2, 0, none⟩)), (36, .tuple #[.agg #[s_.2.2.1, .int .i64 t217, .int .i64 t218], .int .i64 t219]), (43, .agg #[s_.2.2.1, .int .i64 t217, .int .i64 t218]), (44, .int .i64 t219)]) (fun s_ w' => (w'.cell? ⟨gb189, 0, none⟩ = some (.slice A0_0 l0_0.length c0_0) ∧ w'.cell? ⟨gb189, 1, none⟩ = some (.int .i64 a0_1) ∧ w'.cell? ⟨gb189, 2, none⟩ = some (.int .i64 a0_2) ∧ w'.cell? ⟨gb190, 0, none⟩ = some (.int .i64 a2_0) ∧ w'.cell? ⟨gb190, 1, none⟩ = some (.int .i64 a2_1) ∧ w'.cell? ⟨gb190, 2, none⟩ = some (.int .i64 a2_2) ∧ w'.cell? ⟨gb190, 3, none⟩ = some (.int .i64 a2_3) ∧ w'.cell? ⟨gb190, 4, none⟩ = some (.bool a2_4) ∧ w'.cell? ⟨gb190, 5, none⟩ = some (.slice A2_5 l2_5.length c2_5)) ∧ (Kd.V k82 82 w' w.heap.size (fun k_ => some k_ ≠ (s_.1 : Value).ownBlock ∧ k_ ≠ gb189 ∧ k_ ≠ gb190 ∧ k_ ≠ gb200 ∧ k_ ≠ s_.2.2.2) (.slice Ao36 t194.length co36) t194) ∧ (Kd.N k84 84 w' w.heap.size (fun k_ => k_ ≠ gb189 ∧ k_ ≠ gb190 ∧ k_ ≠ gb200 ∧ k_ ≠ s_.2.2.2) s_.1 t201) ∧ (Kd.V (Kd.int .i64) 3 w' w.heap.size (fun k_ => some k_ ≠ (s_.1 : Value).ownBlock ∧ k_ ≠ gb189 ∧ k_ ≠ gb190 ∧ k_ ≠ gb200 ∧ k_ ≠ s_.2.2.2) s_.2.1 t211) ∧ (Kd.V k84 84 w' w.heap.size (fun k_ => k_ ≠ gb189 ∧ k_ ≠ gb190 ∧ k_ ≠ gb200 ∧ k_ ≠ s_.2.2.2) s_.2.2.1 t214) ∧ (w'.heap[gb189]? = some (.cells #[.slice A0_0 l0_0.length c0_0, .int .i64 a0_1, .int .i64 a0_2] 26 (0, 0))) ∧ (w'.heap[gb190]? = some (.cells #[.int .i64 a2_0, .int .i64 a2_1, .int .i64 a2_2, .int .i64 a2_3, .bool a2_4, .slice A2_5 l2_5.length c2_5] 29 (0, 0))) ∧ (w'.heap[gb200]? = some (.cells #[.slice Ao36 t194.length co36, .int .i64 t197, .int .i64 t198] 26 (0, 0))) ∧ (w'.heap[s_.2.2.2]? = some (.cells #[.slice none 0 0, .int .i64 0, .int .i64 0] 37 (0, 0))) ∧ (w.heap.size ≤ s_.2.2.2) ∧ (w.heap.size ≤ s_.2.2.2) ∧ (gb189 ≠ s_.2.2.2) ∧ (s_.2.2.2 ≠ gb189) ∧ (gb190 ≠ s_.2.2.2) ∧ (s_.2.2.2 ≠ gb190) ∧ (gb200 ≠ s_.2.2.2) ∧ (s_.2.2.2 ≠ gb200) ∧ (Below w.heap.size w w')) ?_ ?_
    rotate_left
    ·intro hCont
     refine two_ (i := 1) (j := 9) (Ni := some 38) (Nj := some 9) (bA 12 15) (bA 12 525) rfl rfl rfl rfl (two_of HT_.out (by kernel_rfl)) (by decide) (by decide) (fun K hK => ?_) (fun K hK => ?_)
     ·skip
      refine goes_ Try.func19 (by kernel_rfl) rfl #[.agg #[.slice A0_0 l0_0.length c0_0, .int .i64 a0_1, .int .i64 a0_2]] (by rfl) rfl rfl mT ?_
      with_reducible refine (mortmainlaw06_its.calls kj3 (fun k_ => k_ < w.heap.size) _ _ l0_0 a0_1 a0_2 t201 t204 t205 _ ?side1 A27.out).mono ?_
      (case side1 => exact Kd.V_mk HC0_0.out (Kd.F_below (Kd.C_F k82_heap HR0_0.out) (bI GE189.out GE190.out GE200.out)))
      rintro e w42 ⟨v202, rfl, ho0, hb⟩
      refine ⟨_, rfl, ?_⟩
      have n0_ := Aside0.mk (Kd.V_elder' (by (with_reducible repeat (first | apply Kd.V_alloc | apply Kd.V_drewN | apply Kd.V_drew)); exact HO196.out) (by first | exact Kd.N_base ho0 | exact Kd.S_base ho0) hb)
      have n1_ := Aside0.mk (Kd.N_lower (Kd.N_mono (ok' := fun k_ => k_ ≠ gb189 ∧ k_ ≠ gb190 ∧ k_ ≠ gb200) ho0 (fun k_ hk_ => ⟨Or.elim hk_ (fun hs_ => fun e_ => Nat.not_le.2 hs_ (by rw [e_]; exact GW189.out)) (fun hn_ => (Kd.freshB (g := gb189) (o := .cells #[.slice A0_0 l0_0.length c0_0, .int .i64 a0_1, .int .i64 a0_2] 26 (0, 0)) (kT BK189.out) k_ hn_)), Or.elim hk_ (fun hs_ => fun e_ => Nat.not_le.2 hs_ (by rw [e_]; exact GW190.out)) (fun hn_ => (Kd.freshB (g := gb190) (o := .cells #[.int .i64 a2_0, .int .i64 a2_1, .int .i64 a2_2, .int .i64 a2_3, .bool a2_4, .slice A2_5 l2_5.length c2_5] 29 (0, 0)) (kT BK190.out) k_ hn_)), Or.elim hk_ (fun hs_ => fun e_ => Nat.not_le.2 hs_ (by rw [e_]; exact GW200.out)) (fun hn_ => (Kd.freshB (g := gb200) (o := .cells #[.slice Ao36 t194.length co36, .int .i64 t197, .int .i64 t198] 26 (0, 0)) (kT BK200.out) k_ hn_))⟩)) (below_size (bI GE189.out GE190.out GE200.out)))
      have n2_ := Aside0.mk (blk_below (g := gb189) (o := .cells #[.slice A0_0 l0_0.length c0_0, .int .i64 a0_1, .int .i64 a0_2] 26 (0, 0)) (kT BK189.out) hb)
      have n3_ := Aside0.mk (blk_below (g := gb190) (o := .cells #[.int .i64 a2_0, .int .i64 a2_1, .int .i64 a2_2, .int .i64 a2_3, .bool a2_4, .slice A2_5 l2_5.length c2_5] 29 (0, 0)) (kT BK190.out) hb)
      have n4_ := Aside0.mk (blk_below (g := gb200) (o := .cells #[.slice Ao36 t194.length co36, .int .i64 t197, .int .i64 t198] 26 (0, 0)) (kT BK200.out) hb)
      have n5_ := Aside0.mk (below_step (bI GE189.out GE190.out GE200.out) hb)
      clear HO196
      clear BK189
      clear BK190
      clear BK200
      clear HB
      have HO196 := n0_
      have HO203 := n1_
      have BK189 := n2_
      have BK190 := n3_
      have BK200 := n4_
      have HB := n5_
      clear n0_ n1_ n2_ n3_ n4_ n5_
      (try clear hb)
      (try clear hb2)
      (try clear hk)
      (try clear hi)
      (try clear ho0)
      refine hK.out _ _ ⟨(blk_cell BK189.out 0).trans rfl, (blk_cell BK189.out 1).trans rfl, (blk_cell BK189.out 2).trans rfl, (blk_cell BK190.out 0).trans rfl, (blk_cell BK190.out 1).trans rfl, (blk_cell BK190.out 2).trans rfl, (blk_cell BK190.out 3).trans rfl, (blk_cell BK190.out 4).trans rfl, (blk_cell BK190.out 5).trans rfl⟩ (fun hHeld => ?_)
      clear hK K
      refine norm_ (a' := ?_) ?_ ?_
      rotate_left
      ·show Act.put _ (some 38) _ = _
       simp only [Act.put, q1, q2, q3, i64_w, i32_w]
       rfl
      refine two_ (i := 4) (j := 9) (Ni := some 41) (Nj := some 9) (bA 12 31) (bA 12 527) rfl rfl rfl rfl (two_of HT_.out (by kernel_rfl)) (by decide) (by decide) (fun K hK => ?_) (fun K hK => ?_)
      ·skip
       refine goes_ Try.func20 (by kernel_rfl) rfl #[.agg #[.int .i64 a2_0, .int .i64 a2_1, .int .i64 a2_2, .int .i64 a2_3, .bool a2_4, .slice A2_5 l2_5.length c2_5]] (by rfl) rfl rfl mT ?_
       with_reducible refine (mortmainlaw06_obj.calls a2_0 a2_1 a2_2 a2_3 a2_4 (fun k_ => k_ < w.heap.size) _ _ l2_5 t206 t207 t208 t209 t210 t211 _ ?side1 A28.out).mono ?_
       (case side1 => exact Kd.V_mk HC2_5.out (Kd.F_below (Kd.C_F (Kd.heap_int .i64) HR2_5.out) (bI GE189.out GE190.out GE200.out)))
       rintro e w43 ⟨v212, rfl, ho0, hb⟩
       refine ⟨_, rfl, ?_⟩
       have n0_ := Aside0.mk (Kd.V_below (by (with_reducible repeat (first | apply Kd.V_alloc | apply Kd.V_drewN | apply Kd.V_drew)); exact HO196.out) hb)
       have n1_ := Aside0.mk (Kd.N_below (by (with_reducible repeat (first | apply Kd.N_alloc | apply Kd.N_drewN | apply Kd.N_drew)); exact HO203.out) hb)
       have n2_ := Aside0.mk (Kd.V_lower (Kd.V_mono (ok' := fun k_ => some k_ ≠ (v202 : Value).ownBlock ∧ k_ ≠ gb189 ∧ k_ ≠ gb190 ∧ k_ ≠ gb200) ho0 (fun k_ hk_ => ⟨Or.elim hk_ (fun hs_ => fun e_ => Nat.not_le.2 hs_ (Kd.N_base HO203.out k_ e_.symm)) (fun hn_ => (Kd.fresh' (Kd.N_lt (by (with_reducible repeat (first | apply Kd.N_alloc | apply Kd.N_drewN | apply Kd.N_drew)); exact HO203.out)) k_ hn_)), Or.elim hk_ (fun hs_ => fun e_ => Nat.not_le.2 hs_ (by rw [e_]; exact GW189.out)) (fun hn_ => (Kd.freshB (g := gb189) (o := .cells #[.slice A0_0 l0_0.length c0_0, .int .i64 a0_1, .int .i64 a0_2] 26 (0, 0)) (kT BK189.out) k_ hn_)), Or.elim hk_ (fun hs_ => fun e_ => Nat.not_le.2 hs_ (by rw [e_]; exact GW190.out)) (fun hn_ => (Kd.freshB (g := gb190) (o := .cells #[.int .i64 a2_0, .int .i64 a2_1, .int .i64 a2_2, .int .i64 a2_3, .bool a2_4, .slice A2_5 l2_5.length c2_5] 29 (0, 0)) (kT BK190.out) k_ hn_)), Or.elim hk_ (fun hs_ => fun e_ => Nat.not_le.2 hs_ (by rw [e_]; exact GW200.out)) (fun hn_ => (Kd.freshB (g := gb200) (o := .cells #[.slice Ao36 t194.length co36, .int .i64 t197, .int .i64 t198] 26 (0, 0)) (kT BK200.out) k_ hn_))⟩)) (below_size (bI GE189.out GE190.out GE200.out)))
       have n3_ := Aside0.mk (blk_below (g := gb189) (o := .cells #[.slice A0_0 l0_0.length c0_0, .int .i64 a0_1, .int .i64 a0_2] 26 (0, 0)) (kT BK189.out) hb)
       have n4_ := Aside0.mk (blk_below (g := gb190) (o := .cells #[.int .i64 a2_0, .int .i64 a2_1, .int .i64 a2_2, .int .i64 a2_3, .bool a2_4, .slice A2_5 l2_5.length c2_5] 29 (0, 0)) (kT BK190.out) hb)
       have n5_ := Aside0.mk (blk_below (g := gb200) (o := .cells #[.slice Ao36 t194.length co36, .int .i64 t197, .int .i64 t198] 26 (0, 0)) (kT BK200.out) hb)
       have n6_ := Aside0.mk (below_step (bI GE189.out GE190.out GE200.out) hb)
       clear HO196
       clear HO203
       clear BK189
       clear BK190
       clear BK200
       clear HB
       have HO196 := n0_
       have HO203 := n1_
       have HO213 := n2_
       have BK189 := n3_
       have BK190 := n4_
       have BK200 := n5_
       have HB := n6_
       clear n0_ n1_ n2_ n3_ n4_ n5_ n6_
       (try clear hb)
       (try clear hb2)
       (try clear hk)
       (try clear hi)
       (try clear ho0)
       obtain ⟨Ao44, co44, eo44⟩ := Kd.N_slice HO203.out
       (first | subst eo44 | (injection eo44 with f1_ f2_ f3_; have f4_ := f1_.symm; have f5_ := f3_.symm; clear f1_ f2_ f3_; subst f4_; subst f5_))
       obtain ⟨Ao45, co45, eo45⟩ := Kd.V_slice HO213.out
       (first | subst eo45 | (injection eo45 with f1_ f2_ f3_; have f4_ := f1_.symm; have f5_ := f3_.symm; clear f1_ f2_ f3_; subst f4_; subst f5_))
       refine hK.out _ _ ⟨(blk_cell BK189.out 0).trans rfl, (blk_cell BK189.out 1).trans rfl, (blk_cell BK189.out 2).trans rfl, (blk_cell BK190.out 0).trans rfl, (blk_cell BK190.out 1).trans rfl, (blk_cell BK190.out 2).trans rfl, (blk_cell BK190.out 3).trans rfl, (blk_cell BK190.out 4).trans rfl, (blk_cell BK190.out 5).trans rfl⟩ (fun hHeld => ?_)
       clear hK K
       refine norm_ (a' := ?_) ?_ ?_
       rotate_left
       ·show Act.put _ (some 41) _ = _
        simp only [Act.put, q1, q2, q3, i64_w, i32_w]
        rfl
       refine two_ (i := 5) (j := 9) (Ni := some 42) (Nj := some 9) (bA 12 63) (bA 12 543) rfl rfl rfl rfl (two_of HT_.out (by kernel_rfl)) (by decide) (by decide) (fun K hK => ?_) (fun K hK => ?_)
       ·skip
        refine goes_ Try.func18 (by kernel_rfl) rfl #[.agg #[.slice Ao44 t201.length co44, .int .i64 t204, .int .i64 t205], .int .i64 a1, .agg #[.int .i64 t206, .int .i64 t207, .int .i64 t208, .int .i64 t209, .bool t210, .slice Ao45 t211.length co45]] (by rfl) rfl rfl mT ?_
        with_reducible refine (mortmainref06_Set.calls kj3 (fun k_ => (k_ ≠ gb189 ∧ (k_ ≠ gb190 ∧ k_ ≠ gb200))) _ _ t201 t204 t205 a1 t206 t207 t208 t209 t210 (fun k_ => (some k_ ≠ (.slice Ao44 t201.length co44 : Value).ownBlock ∧ (k_ ≠ gb189 ∧ (k_ ≠ gb190 ∧ k_ ≠ gb200)))) _ _ t211 t214 t217 t218 t219 _ ?side1 ?side2 A29.out).mono ?_
        (case side1 => exact Kd.N_V (HO203.out))
        (case side2 => exact HO213.out)
        rintro e w46 ⟨v215, rfl, ho0, hb⟩
        refine ⟨_, rfl, ?_⟩
        have n0_ := Aside0.mk (Kd.V_below (by (with_reducible repeat (first | apply Kd.V_alloc | apply Kd.V_drewN | apply Kd.V_drew)); exact HO196.out) hb)
        have n1_ := Aside0.mk (Kd.N_below (by (with_reducible repeat (first | apply Kd.N_alloc | apply Kd.N_drewN | apply Kd.N_drew)); exact HO203.out) hb)
        have n2_ := Aside0.mk (Kd.V_below (by (with_reducible repeat (first | apply Kd.V_alloc | apply Kd.V_drewN | apply Kd.V_drew)); exact HO213.out) hb)
        have n3_ := Aside0.mk (Kd.V_lower (Kd.V_mono (ok' := fun k_ => k_ ≠ gb189 ∧ k_ ≠ gb190 ∧ k_ ≠ gb200) ho0 (fun k_ hk_ => ⟨Or.elim hk_ (fun hs_ => Or.elim hs_ (fun hs_ => hs_.1) (fun hs_ => hs_.2.1)) (fun hn_ => (Kd.freshB (g := gb189) (o := .cells #[.slice A0_0 l0_0.length c0_0, .int .i64 a0_1, .int .i64 a0_2] 26 (0, 0)) (kT BK189.out) k_ hn_)), Or.elim hk_ (fun hs_ => Or.elim hs_ (fun hs_ => hs_.2.1) (fun hs_ => hs_.2.2.1)) (fun hn_ => (Kd.freshB (g := gb190) (o := .cells #[.int .i64 a2_0, .int .i64 a2_1, .int .i64 a2_2, .int .i64 a2_3, .bool a2_4, .slice A2_5 l2_5.length c2_5] 29 (0, 0)) (kT BK190.out) k_ hn_)), Or.elim hk_ (fun hs_ => Or.elim hs_ (fun hs_ => hs_.2.2) (fun hs_ => hs_.2.2.2)) (fun hn_ => (Kd.freshB (g := gb200) (o := .cells #[.slice Ao36 t194.length co36, .int .i64 t197, .int .i64 t198] 26 (0, 0)) (kT BK200.out) k_ hn_))⟩)) (below_size (bI GE189.out GE190.out GE200.out)))
        have n4_ := Aside0.mk (blk_below (g := gb189) (o := .cells #[.slice A0_0 l0_0.length c0_0, .int .i64 a0_1, .int .i64 a0_2] 26 (0, 0)) (kT BK189.out) hb)
        have n5_ := Aside0.mk (blk_below (g := gb190) (o := .cells #[.int .i64 a2_0, .int .i64 a2_1, .int .i64 a2_2, .int .i64 a2_3, .bool a2_4, .slice A2_5 l2_5.length c2_5] 29 (0, 0)) (kT BK190.out) hb)
        have n6_ := Aside0.mk (blk_below (g := gb200) (o := .cells #[.slice Ao36 t194.length co36, .int .i64 t197, .int .i64 t198] 26 (0, 0)) (kT BK200.out) hb)
        have n7_ := Aside0.mk (below_step (bI GE189.out GE190.out GE200.out) hb)
        clear HO196
        clear HO203
        clear HO213
        clear BK189
        clear BK190
        clear BK200
        clear HB
        have HO196 := n0_
        have HO203 := n1_
        have HO213 := n2_
        have HO216 := n3_
        have BK189 := n4_
        have BK190 := n5_
        have BK200 := n6_
        have HB := n7_
        clear n0_ n1_ n2_ n3_ n4_ n5_ n6_ n7_
        (try clear hb)
        (try clear hb2)
        (try clear hk)
        (try clear hi)
        (try clear ho0)
        refine hK.out _ _ ⟨(blk_cell BK189.out 0).trans rfl, (blk_cell BK189.out 1).trans rfl, (blk_cell BK189.out 2).trans rfl, (blk_cell BK190.out 0).trans rfl, (blk_cell BK190.out 1).trans rfl, (blk_cell BK190.out 2).trans rfl, (blk_cell BK190.out 3).trans rfl, (blk_cell BK190.out 4).trans rfl, (blk_cell BK190.out 5).trans rfl⟩ (fun hHeld => ?_)
        clear hK K
        refine norm_ (a' := ?_) ?_ ?_
        rotate_left
        ·show Act.put _ (some 42) _ = _
         simp only [Act.put, q1, q2, q3, i64_w, i32_w]
         rfl
        refine pure_ (i := 6) (N := some 36) (v := ?_) (a' := ?_) (bA 12 127) rfl rfl (an_ HT_.out) (fun _ _ _ h => h) (Or.inl ⟨by rfl, ?_⟩) ?_ ?_
        rotate_left
        ·intro w'
         go_simp
         with_reducible rfl
        rotate_left
        ·simp only [Act.put, q1, q2, q3, i64_w, i32_w]
         rfl
        refine pure_ (i := 7) (N := some 43) (v := ?_) (a' := ?_) (bA 12 255) rfl rfl (an_ HT_.out) (fun _ _ _ h => h) (Or.inl ⟨by rfl, ?_⟩) ?_ ?_
        rotate_left
        ·intro w'
         go_simp
         with_reducible rfl
        rotate_left
        ·simp only [Act.put, q1, q2, q3, i64_w, i32_w]
         rfl
        refine pure_ (i := 8) (N := some 44) (v := ?_) (a' := ?_) (bA 12 511) rfl rfl (an_ HT_.out) (fun _ _ _ h => h) (Or.inl ⟨by rfl, ?_⟩) ?_ ?_
        rotate_left
        ·intro w'
         go_simp
         with_reducible rfl
        rotate_left
        ·simp only [Act.put, q1, q2, q3, i64_w, i32_w]
         rfl
        refine one_ (i := 9) (N := some 9) (bA 12 1023) rfl rfl (one_of HT_.out (by kernel_rfl)) (by decide) (fun K hK => ?_)
        refine box_step ?hg (N := 9) ?hd (cs := #[.slice none 0 0, .int .i64 0, .int .i64 0]) (t := 37) ?hr ?_; (case hd => rfl); (case hg => rfl); (case hr => first | (go_simp; done) | (go_simp; rfl))
        intro gb220 hg w47 hbox hb
        have n0_ := Aside0.mk (Kd.V_below (Kd.V_elderB (by (with_reducible repeat (first | apply Kd.V_alloc | apply Kd.V_drewN | apply Kd.V_drew)); exact HO196.out) gb220 (Nat.le_of_eq hg.symm)) hb)
        have n1_ := Aside0.mk (Kd.N_below (Kd.N_elderB (by (with_reducible repeat (first | apply Kd.N_alloc | apply Kd.N_drewN | apply Kd.N_drew)); exact HO203.out) gb220 (Nat.le_of_eq hg.symm)) hb)
        have n2_ := Aside0.mk (Kd.V_below (Kd.V_elderB (by (with_reducible repeat (first | apply Kd.V_alloc | apply Kd.V_drewN | apply Kd.V_drew)); exact HO213.out) gb220 (Nat.le_of_eq hg.symm)) hb)
        have n3_ := Aside0.mk (Kd.V_below (Kd.V_elderB (by (with_reducible repeat (first | apply Kd.V_alloc | apply Kd.V_drewN | apply Kd.V_drew)); exact HO216.out) gb220 (Nat.le_of_eq hg.symm)) hb)
        have n4_ := Aside0.mk (blk_below (g := gb189) (o := .cells #[.slice A0_0 l0_0.length c0_0, .int .i64 a0_1, .int .i64 a0_2] 26 (0, 0)) (kT BK189.out) hb)
        have n5_ := Aside0.mk (blk_below (g := gb190) (o := .cells #[.int .i64 a2_0, .int .i64 a2_1, .int .i64 a2_2, .int .i64 a2_3, .bool a2_4, .slice A2_5 l2_5.length c2_5] 29 (0, 0)) (kT BK190.out) hb)
        have n6_ := Aside0.mk (blk_below (g := gb200) (o := .cells #[.slice Ao36 t194.length co36, .int .i64 t197, .int .i64 t198] 26 (0, 0)) (kT BK200.out) hb)
        have n7_ := Aside0.mk (below_step (bI GE189.out GE190.out GE200.out) hb)
        have n8_ := Aside0.mk (hbox)
        have n9_ := Aside0.mk (gT hg (bI GE189.out GE190.out GE200.out))
        have n10_ := Aside0.mk (gT hg (bI GE189.out GE190.out GE200.out))
        have n11_ := Aside0.mk ((by rw [hg]; exact Nat.ne_of_lt (blk_lt (g := gb189) (o := .cells #[.slice A0_0 l0_0.length c0_0, .int .i64 a0_1, .int .i64 a0_2] 26 (0, 0)) (kT BK189.out)) : gb189 ≠ gb220))
        have n12_ := Aside0.mk ((by rw [hg]; exact Nat.ne_of_gt (blk_lt (g := gb189) (o := .cells #[.slice A0_0 l0_0.length c0_0, .int .i64 a0_1, .int .i64 a0_2] 26 (0, 0)) (kT BK189.out)) : gb220 ≠ gb189))
        have n13_ := Aside0.mk ((by rw [hg]; exact Nat.ne_of_lt (blk_lt (g := gb190) (o := .cells #[.int .i64 a2_0, .int .i64 a2_1, .int .i64 a2_2, .int .i64 a2_3, .bool a2_4, .slice A2_5 l2_5.length c2_5] 29 (0, 0)) (kT BK190.out)) : gb190 ≠ gb220))
        have n14_ := Aside0.mk ((by rw [hg]; exact Nat.ne_of_gt (blk_lt (g := gb190) (o := .cells #[.int .i64 a2_0, .int .i64 a2_1, .int .i64 a2_2, .int .i64 a2_3, .bool a2_4, .slice A2_5 l2_5.length c2_5] 29 (0, 0)) (kT BK190.out)) : gb220 ≠ gb190))
        have n15_ := Aside0.mk ((by rw [hg]; exact Nat.ne_of_lt (blk_lt (g := gb200) (o := .cells #[.slice Ao36 t194.length co36, .int .i64 t197, .int .i64 t198] 26 (0, 0)) (kT BK200.out)) : gb200 ≠ gb220))
        have n16_ := Aside0.mk ((by rw [hg]; exact Nat.ne_of_gt (blk_lt (g := gb200) (o := .cells #[.slice Ao36 t194.length co36, .int .i64 t197, .int .i64 t198] 26 (0, 0)) (kT BK200.out)) : gb220 ≠ gb200))
        clear HO196
        clear HO203
        clear HO213
        clear HO216
        clear BK189
        clear BK190
        clear BK200
        clear HB
        have HO196 := n0_
        have HO203 := n1_
        have HO213 := n2_
        have HO216 := n3_
        have BK189 := n4_
        have BK190 := n5_
        have BK200 := n6_
        have HB := n7_
        have BK220 := n8_
        have GW220 := n9_
        have GE220 := n10_
        have NB189_220 := n11_
        have NB220_189 := n12_
        have NB190_220 := n13_
        have NB220_190 := n14_
        have NB200_220 := n15_
        have NB220_200 := n16_
        clear n0_ n1_ n2_ n3_ n4_ n5_ n6_ n7_ n8_ n9_ n10_ n11_ n12_ n13_ n14_ n15_ n16_
        clear hb hbox hg
        refine hK.out _ _ ⟨(blk_cell BK189.out 0).trans rfl, (blk_cell BK189.out 1).trans rfl, (blk_cell BK189.out 2).trans rfl, (blk_cell BK190.out 0).trans rfl, (blk_cell BK190.out 1).trans rfl, (blk_cell BK190.out 2).trans rfl, (blk_cell BK190.out 3).trans rfl, (blk_cell BK190.out 4).trans rfl, (blk_cell BK190.out 5).trans rfl⟩ (fun hHeld => ?_)
        clear hK K
        refine norm_ (a' := ?_) ?_ ?_
        rotate_left
        ·show Act.put _ (some 9) _ = _
         simp only [Act.put, q1, q2, q3, i64_w, i32_w]
         rfl
        exact norm_ (by simp only [putAll, Act.put, List.setIfInBounds_toArray, List.set_cons_zero, List.set_cons_succ]) (hCont (.slice Ao44 t201.length co44, .slice Ao45 t211.length co45, v215, gb220) _ ⟨hHeld, (by (with_reducible repeat (first | apply Kd.V_alloc | apply Kd.V_drewN | apply Kd.V_drew)); exact Kd.V_mono HO196.out (fun _ hk => ⟨hk.1.2, ⟨hk.1.1.1, ⟨hk.1.1.2.1, ⟨hk.1.1.2.2, hk.2⟩⟩⟩⟩)), (by (with_reducible repeat (first | apply Kd.N_alloc | apply Kd.N_drewN | apply Kd.N_drew)); exact Kd.N_mono HO203.out (fun _ hk => ⟨hk.1.1, ⟨hk.1.2.1, ⟨hk.1.2.2, hk.2⟩⟩⟩)), (by (with_reducible repeat (first | apply Kd.V_alloc | apply Kd.V_drewN | apply Kd.V_drew)); exact Kd.V_mono HO213.out (fun _ hk => ⟨hk.1.1, ⟨hk.1.2.1, ⟨hk.1.2.2.1, ⟨hk.1.2.2.2, hk.2⟩⟩⟩⟩)), (by (with_reducible repeat (first | apply Kd.V_alloc | apply Kd.V_drewN | apply Kd.V_drew)); exact Kd.V_mono HO216.out (fun _ hk => ⟨hk.1.1, ⟨hk.1.2.1, ⟨hk.1.2.2, hk.2⟩⟩⟩)), (kT BK189.out), (kT BK190.out), (kT BK200.out), (kT BK220.out), GW220.out, GE220.out, NB189_220.out, NB220_189.out, NB190_220.out, NB220_190.out, NB200_220.out, NB220_200.out, (by repeat (first | (with_reducible first | exact HB.out | apply below_alloc | apply pw_below_drewN | apply below_drew1 | refine below_set ?_ GE189.out | refine below_set ?_ GE190.out | refine below_set ?_ GE200.out | refine below_set ?_ GE220.out) | exact HB.out))⟩)
       ·skip
        refine box_step ?hg (N := 9) ?hd (cs := #[.slice none 0 0, .int .i64 0, .int .i64 0]) (t := 37) ?hr ?_; (case hd => rfl); (case hg => rfl); (case hr => first | (go_simp; done) | (go_simp; rfl))
        intro gb220 hg w44 hbox hb
        have n0_ := Aside0.mk (Kd.V_below (Kd.V_elderB (by (with_reducible repeat (first | apply Kd.V_alloc | apply Kd.V_drewN | apply Kd.V_drew)); exact HO196.out) gb220 (Nat.le_of_eq hg.symm)) hb)
        have n1_ := Aside0.mk (Kd.N_below (Kd.N_elderB (by (with_reducible repeat (first | apply Kd.N_alloc | apply Kd.N_drewN | apply Kd.N_drew)); exact HO203.out) gb220 (Nat.le_of_eq hg.symm)) hb)
        have n2_ := Aside0.mk (Kd.V_below (Kd.V_elderB (by (with_reducible repeat (first | apply Kd.V_alloc | apply Kd.V_drewN | apply Kd.V_drew)); exact HO213.out) gb220 (Nat.le_of_eq hg.symm)) hb)
        have n3_ := Aside0.mk (blk_below (g := gb189) (o := .cells #[.slice A0_0 l0_0.length c0_0, .int .i64 a0_1, .int .i64 a0_2] 26 (0, 0)) (kT BK189.out) hb)
        have n4_ := Aside0.mk (blk_below (g := gb190) (o := .cells #[.int .i64 a2_0, .int .i64 a2_1, .int .i64 a2_2, .int .i64 a2_3, .bool a2_4, .slice A2_5 l2_5.length c2_5] 29 (0, 0)) (kT BK190.out) hb)
        have n5_ := Aside0.mk (blk_below (g := gb200) (o := .cells #[.slice Ao36 t194.length co36, .int .i64 t197, .int .i64 t198] 26 (0, 0)) (kT BK200.out) hb)
        have n6_ := Aside0.mk (below_step (bI GE189.out GE190.out GE200.out) hb)
        have n7_ := Aside0.mk (hbox)
        have n8_ := Aside0.mk (gT hg (bI GE189.out GE190.out GE200.out))
        have n9_ := Aside0.mk (gT hg (bI GE189.out GE190.out GE200.out))
        have n10_ := Aside0.mk ((by rw [hg]; exact Nat.ne_of_lt (blk_lt (g := gb189) (o := .cells #[.slice A0_0 l0_0.length c0_0, .int .i64 a0_1, .int .i64 a0_2] 26 (0, 0)) (kT BK189.out)) : gb189 ≠ gb220))
        have n11_ := Aside0.mk ((by rw [hg]; exact Nat.ne_of_gt (blk_lt (g := gb189) (o := .cells #[.slice A0_0 l0_0.length c0_0, .int .i64 a0_1, .int .i64 a0_2] 26 (0, 0)) (kT BK189.out)) : gb220 ≠ gb189))
        have n12_ := Aside0.mk ((by rw [hg]; exact Nat.ne_of_lt (blk_lt (g := gb190) (o := .cells #[.int .i64 a2_0, .int .i64 a2_1, .int .i64 a2_2, .int .i64 a2_3, .bool a2_4, .slice A2_5 l2_5.length c2_5] 29 (0, 0)) (kT BK190.out)) : gb190 ≠ gb220))
        have n13_ := Aside0.mk ((by rw [hg]; exact Nat.ne_of_gt (blk_lt (g := gb190) (o := .cells #[.int .i64 a2_0, .int .i64 a2_1, .int .i64 a2_2, .int .i64 a2_3, .bool a2_4, .slice A2_5 l2_5.length c2_5] 29 (0, 0)) (kT BK190.out)) : gb220 ≠ gb190))
        have n14_ := Aside0.mk ((by rw [hg]; exact Nat.ne_of_lt (blk_lt (g := gb200) (o := .cells #[.slice Ao36 t194.length co36, .int .i64 t197, .int .i64 t198] 26 (0, 0)) (kT BK200.out)) : gb200 ≠ gb220))
        have n15_ := Aside0.mk ((by rw [hg]; exact Nat.ne_of_gt (blk_lt (g := gb200) (o := .cells #[.slice Ao36 t194.length co36, .int .i64 t197, .int .i64 t198] 26 (0, 0)) (kT BK200.out)) : gb220 ≠ gb200))
        clear HO196
        clear HO203
        clear HO213
        clear BK189
        clear BK190
        clear BK200
        clear HB
        have HO196 := n0_
        have HO203 := n1_
        have HO213 := n2_
        have BK189 := n3_
        have BK190 := n4_
        have BK200 := n5_
        have HB := n6_
        have BK220 := n7_
        have GW220 := n8_
        have GE220 := n9_
        have NB189_220 := n10_
        have NB220_189 := n11_
        have NB190_220 := n12_
        have NB220_190 := n13_
        have NB200_220 := n14_
        have NB220_200 := n15_
        clear n0_ n1_ n2_ n3_ n4_ n5_ n6_ n7_ n8_ n9_ n10_ n11_ n12_ n13_ n14_ n15_
        clear hb hbox hg
        obtain ⟨Ao45, co45, eo45⟩ := Kd.N_slice HO203.out
        (first | subst eo45 | (injection eo45 with f1_ f2_ f3_; have f4_ := f1_.symm; have f5_ := f3_.symm; clear f1_ f2_ f3_; subst f4_; subst f5_))
        obtain ⟨Ao46, co46, eo46⟩ := Kd.V_slice HO213.out
        (first | subst eo46 | (injection eo46 with f1_ f2_ f3_; have f4_ := f1_.symm; have f5_ := f3_.symm; clear f1_ f2_ f3_; subst f4_; subst f5_))
        refine hK.out _ _ ⟨(blk_cell BK189.out 0).trans rfl, (blk_cell BK189.out 1).trans rfl, (blk_cell BK189.out 2).trans rfl, (blk_cell BK190.out 0).trans rfl, (blk_cell BK190.out 1).trans rfl, (blk_cell BK190.out 2).trans rfl, (blk_cell BK190.out 3).trans rfl, (blk_cell BK190.out 4).trans rfl, (blk_cell BK190.out 5).trans rfl⟩ (fun hHeld => ?_)
        clear hK K
        refine norm_ (a' := ?_) ?_ ?_
        rotate_left
        ·show Act.put _ (some 9) _ = _
         simp only [Act.put, q1, q2, q3, i64_w, i32_w]
         rfl
        refine one_ (i := 5) (N := some 42) (bA 12 575) rfl rfl (one_of HT_.out (by kernel_rfl)) (by decide) (fun K hK => ?_)
        refine goes_ Try.func18 (by kernel_rfl) rfl #[.agg #[.slice Ao45 t201.length co45, .int .i64 t204, .int .i64 t205], .int .i64 a1, .agg #[.int .i64 t206, .int .i64 t207, .int .i64 t208, .int .i64 t209, .bool t210, .slice Ao46 t211.length co46]] (by rfl) rfl rfl mT ?_
        with_reducible refine (mortmainref06_Set.calls kj3 (fun k_ => ((k_ ≠ gb189 ∧ (k_ ≠ gb190 ∧ k_ ≠ gb200)) ∧ k_ ≠ gb220)) _ _ t201 t204 t205 a1 t206 t207 t208 t209 t210 (fun k_ => ((some k_ ≠ (.slice Ao45 t201.length co45 : Value).ownBlock ∧ (k_ ≠ gb189 ∧ (k_ ≠ gb190 ∧ k_ ≠ gb200))) ∧ k_ ≠ gb220)) _ _ t211 t214 t217 t218 t219 _ ?side1 ?side2 A29.out).mono ?_
        (case side1 => exact Kd.N_V (HO203.out))
        (case side2 => exact HO213.out)
        rintro e w47 ⟨v215, rfl, ho0, hb⟩
        refine ⟨_, rfl, ?_⟩
        have n0_ := Aside0.mk (Kd.V_below (by (with_reducible repeat (first | apply Kd.V_alloc | apply Kd.V_drewN | apply Kd.V_drew)); exact HO196.out) hb)
        have n1_ := Aside0.mk (Kd.N_below (by (with_reducible repeat (first | apply Kd.N_alloc | apply Kd.N_drewN | apply Kd.N_drew)); exact HO203.out) hb)
        have n2_ := Aside0.mk (Kd.V_below (by (with_reducible repeat (first | apply Kd.V_alloc | apply Kd.V_drewN | apply Kd.V_drew)); exact HO213.out) hb)
        have n3_ := Aside0.mk (Kd.V_lower (Kd.V_mono (ok' := fun k_ => k_ ≠ gb189 ∧ k_ ≠ gb190 ∧ k_ ≠ gb200 ∧ k_ ≠ gb220) ho0 (fun k_ hk_ => ⟨Or.elim hk_ (fun hs_ => Or.elim hs_ (fun hs_ => hs_.1.1) (fun hs_ => hs_.1.2.1)) (fun hn_ => (Kd.freshB (g := gb189) (o := .cells #[.slice A0_0 l0_0.length c0_0, .int .i64 a0_1, .int .i64 a0_2] 26 (0, 0)) (kT BK189.out) k_ hn_)), Or.elim hk_ (fun hs_ => Or.elim hs_ (fun hs_ => hs_.1.2.1) (fun hs_ => hs_.1.2.2.1)) (fun hn_ => (Kd.freshB (g := gb190) (o := .cells #[.int .i64 a2_0, .int .i64 a2_1, .int .i64 a2_2, .int .i64 a2_3, .bool a2_4, .slice A2_5 l2_5.length c2_5] 29 (0, 0)) (kT BK190.out) k_ hn_)), Or.elim hk_ (fun hs_ => Or.elim hs_ (fun hs_ => hs_.1.2.2) (fun hs_ => hs_.1.2.2.2)) (fun hn_ => (Kd.freshB (g := gb200) (o := .cells #[.slice Ao36 t194.length co36, .int .i64 t197, .int .i64 t198] 26 (0, 0)) (kT BK200.out) k_ hn_)), Or.elim hk_ (fun hs_ => Or.elim hs_ (fun hs_ => hs_.2) (fun hs_ => hs_.2)) (fun hn_ => (Kd.freshB (g := gb220) (o := .cells #[.slice none 0 0, .int .i64 0, .int .i64 0] 37 (0, 0)) (kT BK220.out) k_ hn_))⟩)) (below_size (by repeat (first | (with_reducible first | exact HB.out | apply below_alloc | apply pw_below_drewN | apply below_drew1 | refine below_set ?_ GE189.out | refine below_set ?_ GE190.out | refine below_set ?_ GE200.out | refine below_set ?_ GE220.out) | exact HB.out))))
        have n4_ := Aside0.mk (blk_below (g := gb189) (o := .cells #[.slice A0_0 l0_0.length c0_0, .int .i64 a0_1, .int .i64 a0_2] 26 (0, 0)) (kT BK189.out) hb)
        have n5_ := Aside0.mk (blk_below (g := gb190) (o := .cells #[.int .i64 a2_0, .int .i64 a2_1, .int .i64 a2_2, .int .i64 a2_3, .bool a2_4, .slice A2_5 l2_5.length c2_5] 29 (0, 0)) (kT BK190.out) hb)
        have n6_ := Aside0.mk (blk_below (g := gb200) (o := .cells #[.slice Ao36 t194.length co36, .int .i64 t197, .int .i64 t198] 26 (0, 0)) (kT BK200.out) hb)
        have n7_ := Aside0.mk (blk_below (g := gb220) (o := .cells #[.slice none 0 0, .int .i64 0, .int .i64 0] 37 (0, 0)) (kT BK220.out) hb)
        have n8_ := Aside0.mk (below_step (by repeat (first | (with_reducible first | exact HB.out | apply below_alloc | apply pw_below_drewN | apply below_drew1 | refine below_set ?_ GE189.out | refine below_set ?_ GE190.out | refine below_set ?_ GE200.out | refine below_set ?_ GE220.out) | exact HB.out)) hb)
        clear HO196
        clear HO203
        clear HO213
        clear BK189
        clear BK190
        clear BK200
        clear BK220
        clear HB
        have HO196 := n0_
        have HO203 := n1_
        have HO213 := n2_
        have HO216 := n3_
        have BK189 := n4_
        have BK190 := n5_
        have BK200 := n6_
        have BK220 := n7_
        have HB := n8_
        clear n0_ n1_ n2_ n3_ n4_ n5_ n6_ n7_ n8_
        (try clear hb)
        (try clear hb2)
        (try clear hk)
        (try clear hi)
        (try clear ho0)
        refine hK.out _ _ ⟨(blk_cell BK189.out 0).trans rfl, (blk_cell BK189.out 1).trans rfl, (blk_cell BK189.out 2).trans rfl, (blk_cell BK190.out 0).trans rfl, (blk_cell BK190.out 1).trans rfl, (blk_cell BK190.out 2).trans rfl, (blk_cell BK190.out 3).trans rfl, (blk_cell BK190.out 4).trans rfl, (blk_cell BK190.out 5).trans rfl⟩ (fun hHeld => ?_)
        clear hK K
        refine norm_ (a' := ?_) ?_ ?_
        rotate_left
        ·show Act.put _ (some 42) _ = _
         simp only [Act.put, q1, q2, q3, i64_w, i32_w]
         rfl
        refine pure_ (i := 6) (N := some 36) (v := ?_) (a' := ?_) (bA 12 639) rfl rfl (an_ HT_.out) (fun _ _ _ h => h) (Or.inl ⟨by rfl, ?_⟩) ?_ ?_
        rotate_left
        ·intro w'
         go_simp
         with_reducible rfl
        rotate_left
        ·simp only [Act.put, q1, q2, q3, i64_w, i32_w]
         rfl
        refine pure_ (i := 7) (N := some 43) (v := ?_) (a' := ?_) (bA 12 767) rfl rfl (an_ HT_.out) (fun _ _ _ h => h) (Or.inl ⟨by rfl, ?_⟩) ?_ ?_
        rotate_left
        ·intro w'
         go_simp
         with_reducible rfl
        rotate_left
        ·simp only [Act.put, q1, q2, q3, i64_w, i32_w]
         rfl
        refine pure_ (i := 8) (N := some 44) (v := ?_) (a' := ?_) (bA 12 1023) rfl rfl (an_ HT_.out) (fun _ _ _ h => h) (Or.inl ⟨by rfl, ?_⟩) ?_ ?_
        rotate_left
        ·intro w'
         go_simp
         with_reducible rfl
        rotate_left
        ·simp only [Act.put, q1, q2, q3, i64_w, i32_w]
         rfl
        exact norm_ (by simp only [putAll, Act.put, List.setIfInBounds_toArray, List.set_cons_zero, List.set_cons_succ]) (hCont (.slice Ao45 t201.length co45, .slice Ao46 t211.length co46, v215, gb220) _ ⟨hHeld, (by (with_reducible repeat (first | apply Kd.V_alloc | apply Kd.V_drewN | apply Kd.V_drew)); exact Kd.V_mono HO196.out (fun _ hk => ⟨hk.1.2, ⟨hk.1.1.1, ⟨hk.1.1.2.1, ⟨hk.1.1.2.2, hk.2⟩⟩⟩⟩)), (by (with_reducible repeat (first | apply Kd.N_alloc | apply Kd.N_drewN | apply Kd.N_drew)); exact Kd.N_mono HO203.out (fun _ hk => ⟨hk.1.1, ⟨hk.1.2.1, ⟨hk.1.2.2, hk.2⟩⟩⟩)), (by (with_reducible repeat (first | apply Kd.V_alloc | apply Kd.V_drewN | apply Kd.V_drew)); exact Kd.V_mono HO213.out (fun _ hk => ⟨hk.1.1, ⟨hk.1.2.1, ⟨hk.1.2.2.1, ⟨hk.1.2.2.2, hk.2⟩⟩⟩⟩)), (by (with_reducible repeat (first | apply Kd.V_alloc | apply Kd.V_drewN | apply Kd.V_drew)); exact HO216.out), (kT BK189.out), (kT BK190.out), (kT BK200.out), (kT BK220.out), GW220.out, GE220.out, NB189_220.out, NB220_189.out, NB190_220.out, NB220_190.out, NB200_220.out, NB220_200.out, (by repeat (first | (with_reducible first | exact HB.out | apply below_alloc | apply pw_below_drewN | apply below_drew1 | refine below_set ?_ GE189.out | refine below_set ?_ GE190.out | refine below_set ?_ GE200.out | refine below_set ?_ GE220.out) | exact HB.out))⟩)
      ·skip
       refine box_step ?hg (N := 9) ?hd (cs := #[.slice none 0 0, .int .i64 0, .int .i64 0]) (t := 37) ?hr ?_; (case hd => rfl); (case hg => rfl); (case hr => first | (go_simp; done) | (go_simp; rfl))
       intro gb220 hg w43 hbox hb
       have n0_ := Aside0.mk (Kd.V_below (Kd.V_elderB (by (with_reducible repeat (first | apply Kd.V_alloc | apply Kd.V_drewN | apply Kd.V_drew)); exact HO196.out) gb220 (Nat.le_of_eq hg.symm)) hb)
       have n1_ := Aside0.mk (Kd.N_below (Kd.N_elderB (by (with_reducible repeat (first | apply Kd.N_alloc | apply Kd.N_drewN | apply Kd.N_drew)); exact HO203.out) gb220 (Nat.le_of_eq hg.symm)) hb)
       have n2_ := Aside0.mk (blk_below (g := gb189) (o := .cells #[.slice A0_0 l0_0.length c0_0, .int .i64 a0_1, .int .i64 a0_2] 26 (0, 0)) (kT BK189.out) hb)
       have n3_ := Aside0.mk (blk_below (g := gb190) (o := .cells #[.int .i64 a2_0, .int .i64 a2_1, .int .i64 a2_2, .int .i64 a2_3, .bool a2_4, .slice A2_5 l2_5.length c2_5] 29 (0, 0)) (kT BK190.out) hb)
       have n4_ := Aside0.mk (blk_below (g := gb200) (o := .cells #[.slice Ao36 t194.length co36, .int .i64 t197, .int .i64 t198] 26 (0, 0)) (kT BK200.out) hb)
       have n5_ := Aside0.mk (below_step (bI GE189.out GE190.out GE200.out) hb)
       have n6_ := Aside0.mk (hbox)
       have n7_ := Aside0.mk (gT hg (bI GE189.out GE190.out GE200.out))
       have n8_ := Aside0.mk (gT hg (bI GE189.out GE190.out GE200.out))
       have n9_ := Aside0.mk ((by rw [hg]; exact Nat.ne_of_lt (blk_lt (g := gb189) (o := .cells #[.slice A0_0 l0_0.length c0_0, .int .i64 a0_1, .int .i64 a0_2] 26 (0, 0)) (kT BK189.out)) : gb189 ≠ gb220))
       have n10_ := Aside0.mk ((by rw [hg]; exact Nat.ne_of_gt (blk_lt (g := gb189) (o := .cells #[.slice A0_0 l0_0.length c0_0, .int .i64 a0_1, .int .i64 a0_2] 26 (0, 0)) (kT BK189.out)) : gb220 ≠ gb189))
       have n11_ := Aside0.mk ((by rw [hg]; exact Nat.ne_of_lt (blk_lt (g := gb190) (o := .cells #[.int .i64 a2_0, .int .i64 a2_1, .int .i64 a2_2, .int .i64 a2_3, .bool a2_4, .slice A2_5 l2_5.length c2_5] 29 (0, 0)) (kT BK190.out)) : gb190 ≠ gb220))
       have n12_ := Aside0.mk ((by rw [hg]; exact Nat.ne_of_gt (blk_lt (g := gb190) (o := .cells #[.int .i64 a2_0, .int .i64 a2_1, .int .i64 a2_2, .int .i64 a2_3, .bool a2_4, .slice A2_5 l2_5.length c2_5] 29 (0, 0)) (kT BK190.out)) : gb220 ≠ gb190))
       have n13_ := Aside0.mk ((by rw [hg]; exact Nat.ne_of_lt (blk_lt (g := gb200) (o := .cells #[.slice Ao36 t194.length co36, .int .i64 t197, .int .i64 t198] 26 (0, 0)) (kT BK200.out)) : gb200 ≠ gb220))
       have n14_ := Aside0.mk ((by rw [hg]; exact Nat.ne_of_gt (blk_lt (g := gb200) (o := .cells #[.slice Ao36 t194.length co36, .int .i64 t197, .int .i64 t198] 26 (0, 0)) (kT BK200.out)) : gb220 ≠ gb200))
       clear HO196
       clear HO203
       clear BK189
       clear BK190
       clear BK200
       clear HB
       have HO196 := n0_
       have HO203 := n1_
       have BK189 := n2_
       have BK190 := n3_
       have BK200 := n4_
       have HB := n5_
       have BK220 := n6_
       have GW220 := n7_
       have GE220 := n8_
       have NB189_220 := n9_
       have NB220_189 := n10_
       have NB190_220 := n11_
       have NB220_190 := n12_
       have NB200_220 := n13_
       have NB220_200 := n14_
       clear n0_ n1_ n2_ n3_ n4_ n5_ n6_ n7_ n8_ n9_ n10_ n11_ n12_ n13_ n14_
       clear hb hbox hg
       refine hK.out _ _ ⟨(blk_cell BK189.out 0).trans rfl, (blk_cell BK189.out 1).trans rfl, (blk_cell BK189.out 2).trans rfl, (blk_cell BK190.out 0).trans rfl, (blk_cell BK190.out 1).trans rfl, (blk_cell BK190.out 2).trans rfl, (blk_cell BK190.out 3).trans rfl, (blk_cell BK190.out 4).trans rfl, (blk_cell BK190.out 5).trans rfl⟩ (fun hHeld => ?_)
       clear hK K
       refine norm_ (a' := ?_) ?_ ?_
       rotate_left
       ·show Act.put _ (some 9) _ = _
        simp only [Act.put, q1, q2, q3, i64_w, i32_w]
        rfl
       refine one_ (i := 4) (N := some 41) (bA 12 543) rfl rfl (one_of HT_.out (by kernel_rfl)) (by decide) (fun K hK => ?_)
       refine goes_ Try.func20 (by kernel_rfl) rfl #[.agg #[.int .i64 a2_0, .int .i64 a2_1, .int .i64 a2_2, .int .i64 a2_3, .bool a2_4, .slice A2_5 l2_5.length c2_5]] (by rfl) rfl rfl mT ?_
       with_reducible refine (mortmainlaw06_obj.calls a2_0 a2_1 a2_2 a2_3 a2_4 (fun k_ => k_ < w.heap.size) _ _ l2_5 t206 t207 t208 t209 t210 t211 _ ?side1 A28.out).mono ?_
       (case side1 => exact Kd.V_mk HC2_5.out (Kd.F_below (Kd.C_F (Kd.heap_int .i64) HR2_5.out) (by repeat (first | (with_reducible first | exact HB.out | apply below_alloc | apply pw_below_drewN | apply below_drew1 | refine below_set ?_ GE189.out | refine below_set ?_ GE190.out | refine below_set ?_ GE200.out | refine below_set ?_ GE220.out) | exact HB.out))))
       rintro e w44 ⟨v212, rfl, ho0, hb⟩
       refine ⟨_, rfl, ?_⟩
       have n0_ := Aside0.mk (Kd.V_below (by (with_reducible repeat (first | apply Kd.V_alloc | apply Kd.V_drewN | apply Kd.V_drew)); exact HO196.out) hb)
       have n1_ := Aside0.mk (Kd.N_below (by (with_reducible repeat (first | apply Kd.N_alloc | apply Kd.N_drewN | apply Kd.N_drew)); exact HO203.out) hb)
       have n2_ := Aside0.mk (Kd.V_lower (Kd.V_mono (ok' := fun k_ => some k_ ≠ (v202 : Value).ownBlock ∧ k_ ≠ gb189 ∧ k_ ≠ gb190 ∧ k_ ≠ gb200 ∧ k_ ≠ gb220) ho0 (fun k_ hk_ => ⟨Or.elim hk_ (fun hs_ => fun e_ => Nat.not_le.2 hs_ (Kd.N_base HO203.out k_ e_.symm)) (fun hn_ => (Kd.fresh' (Kd.N_lt (by (with_reducible repeat (first | apply Kd.N_alloc | apply Kd.N_drewN | apply Kd.N_drew)); exact HO203.out)) k_ hn_)), Or.elim hk_ (fun hs_ => fun e_ => Nat.not_le.2 hs_ (by rw [e_]; exact GW189.out)) (fun hn_ => (Kd.freshB (g := gb189) (o := .cells #[.slice A0_0 l0_0.length c0_0, .int .i64 a0_1, .int .i64 a0_2] 26 (0, 0)) (kT BK189.out) k_ hn_)), Or.elim hk_ (fun hs_ => fun e_ => Nat.not_le.2 hs_ (by rw [e_]; exact GW190.out)) (fun hn_ => (Kd.freshB (g := gb190) (o := .cells #[.int .i64 a2_0, .int .i64 a2_1, .int .i64 a2_2, .int .i64 a2_3, .bool a2_4, .slice A2_5 l2_5.length c2_5] 29 (0, 0)) (kT BK190.out) k_ hn_)), Or.elim hk_ (fun hs_ => fun e_ => Nat.not_le.2 hs_ (by rw [e_]; exact GW200.out)) (fun hn_ => (Kd.freshB (g := gb200) (o := .cells #[.slice Ao36 t194.length co36, .int .i64 t197, .int .i64 t198] 26 (0, 0)) (kT BK200.out) k_ hn_)), Or.elim hk_ (fun hs_ => fun e_ => Nat.not_le.2 hs_ (by rw [e_]; exact GW220.out)) (fun hn_ => (Kd.freshB (g := gb220) (o := .cells #[.slice none 0 0, .int .i64 0, .int .i64 0] 37 (0, 0)) (kT BK220.out) k_ hn_))⟩)) (below_size (by repeat (first | (with_reducible first | exact HB.out | apply below_alloc | apply pw_below_drewN | apply below_drew1 | refine below_set ?_ GE189.out | refine below_set ?_ GE190.out | refine below_set ?_ GE200.out | refine below_set ?_ GE220.out) | exact HB.out))))
       have n3_ := Aside0.mk (blk_below (g := gb189) (o := .cells #[.slice A0_0 l0_0.length c0_0, .int .i64 a0_1, .int .i64 a0_2] 26 (0, 0)) (kT BK189.out) hb)
       have n4_ := Aside0.mk (blk_below (g := gb190) (o := .cells #[.int .i64 a2_0, .int .i64 a2_1, .int .i64 a2_2, .int .i64 a2_3, .bool a2_4, .slice A2_5 l2_5.length c2_5] 29 (0, 0)) (kT BK190.out) hb)
       have n5_ := Aside0.mk (blk_below (g := gb200) (o := .cells #[.slice Ao36 t194.length co36, .int .i64 t197, .int .i64 t198] 26 (0, 0)) (kT BK200.out) hb)
       have n6_ := Aside0.mk (blk_below (g := gb220) (o := .cells #[.slice none 0 0, .int .i64 0, .int .i64 0] 37 (0, 0)) (kT BK220.out) hb)
       have n7_ := Aside0.mk (below_step (by repeat (first | (with_reducible first | exact HB.out | apply below_alloc | apply pw_below_drewN | apply below_drew1 | refine below_set ?_ GE189.out | refine below_set ?_ GE190.out | refine below_set ?_ GE200.out | refine below_set ?_ GE220.out) | exact HB.out)) hb)
       clear HO196
       clear HO203
       clear BK189
       clear BK190
       clear BK200
       clear BK220
       clear HB
       have HO196 := n0_
       have HO203 := n1_
       have HO213 := n2_
       have BK189 := n3_
       have BK190 := n4_
       have BK200 := n5_
       have BK220 := n6_
       have HB := n7_
       clear n0_ n1_ n2_ n3_ n4_ n5_ n6_ n7_
       (try clear hb)
       (try clear hb2)
       (try clear hk)
       (try clear hi)
       (try clear ho0)
       obtain ⟨Ao45, co45, eo45⟩ := Kd.N_slice HO203.out
       (first | subst eo45 | (injection eo45 with f1_ f2_ f3_; have f4_ := f1_.symm; have f5_ := f3_.symm; clear f1_ f2_ f3_; subst f4_; subst f5_))
       obtain ⟨Ao46, co46, eo46⟩ := Kd.V_slice HO213.out
       (first | subst eo46 | (injection eo46 with f1_ f2_ f3_; have f4_ := f1_.symm; have f5_ := f3_.symm; clear f1_ f2_ f3_; subst f4_; subst f5_))
       refine hK.out _ _ ⟨(blk_cell BK189.out 0).trans rfl, (blk_cell BK189.out 1).trans rfl, (blk_cell BK189.out 2).trans rfl, (blk_cell BK190.out 0).trans rfl, (blk_cell BK190.out 1).trans rfl, (blk_cell BK190.out 2).trans rfl, (blk_cell BK190.out 3).trans rfl, (blk_cell BK190.out 4).trans rfl, (blk_cell BK190.out 5).trans rfl⟩ (fun hHeld => ?_)
       clear hK K
       refine norm_ (a' := ?_) ?_ ?_
       rotate_left
       ·show Act.put _ (some 41) _ = _
        simp only [Act.put, q1, q2, q3, i64_w, i32_w]
        rfl
       refine one_ (i := 5) (N := some 42) (bA 12 575) rfl rfl (one_of HT_.out (by kernel_rfl)) (by decide) (fun K hK => ?_)
       refine goes_ Try.func18 (by kernel_rfl) rfl #[.agg #[.slice Ao45 t201.length co45, .int .i64 t204, .int .i64 t205], .int .i64 a1, .agg #[.int .i64 t206, .int .i64 t207, .int .i64 t208, .int .i64 t209, .bool t210, .slice Ao46 t211.length co46]] (by rfl) rfl rfl mT ?_
       with_reducible refine (mortmainref06_Set.calls kj3 (fun k_ => ((k_ ≠ gb189 ∧ (k_ ≠ gb190 ∧ k_ ≠ gb200)) ∧ k_ ≠ gb220)) _ _ t201 t204 t205 a1 t206 t207 t208 t209 t210 (fun k_ => (some k_ ≠ (.slice Ao45 t201.length co45 : Value).ownBlock ∧ (k_ ≠ gb189 ∧ (k_ ≠ gb190 ∧ (k_ ≠ gb200 ∧ k_ ≠ gb220))))) _ _ t211 t214 t217 t218 t219 _ ?side1 ?side2 A29.out).mono ?_
       (case side1 => exact Kd.N_V (HO203.out))
       (case side2 => exact HO213.out)
       rintro e w47 ⟨v215, rfl, ho0, hb⟩
       refine ⟨_, rfl, ?_⟩
       have n0_ := Aside0.mk (Kd.V_below (by (with_reducible repeat (first | apply Kd.V_alloc | apply Kd.V_drewN | apply Kd.V_drew)); exact HO196.out) hb)
       have n1_ := Aside0.mk (Kd.N_below (by (with_reducible repeat (first | apply Kd.N_alloc | apply Kd.N_drewN | apply Kd.N_drew)); exact HO203.out) hb)
       have n2_ := Aside0.mk (Kd.V_below (by (with_reducible repeat (first | apply Kd.V_alloc | apply Kd.V_drewN | apply Kd.V_drew)); exact HO213.out) hb)
       have n3_ := Aside0.mk (Kd.V_lower (Kd.V_mono (ok' := fun k_ => k_ ≠ gb189 ∧ k_ ≠ gb190 ∧ k_ ≠ gb200 ∧ k_ ≠ gb220) ho0 (fun k_ hk_ => ⟨Or.elim hk_ (fun hs_ => Or.elim hs_ (fun hs_ => hs_.1.1) (fun hs_ => hs_.2.1)) (fun hn_ => (Kd.freshB (g := gb189) (o := .cells #[.slice A0_0 l0_0.length c0_0, .int .i64 a0_1, .int .i64 a0_2] 26 (0, 0)) (kT BK189.out) k_ hn_)), Or.elim hk_ (fun hs_ => Or.elim hs_ (fun hs_ => hs_.1.2.1) (fun hs_ => hs_.2.2.1)) (fun hn_ => (Kd.freshB (g := gb190) (o := .cells #[.int .i64 a2_0, .int .i64 a2_1, .int .i64 a2_2, .int .i64 a2_3, .bool a2_4, .slice A2_5 l2_5.length c2_5] 29 (0, 0)) (kT BK190.out) k_ hn_)), Or.elim hk_ (fun hs_ => Or.elim hs_ (fun hs_ => hs_.1.2.2) (fun hs_ => hs_.2.2.2.1)) (fun hn_ => (Kd.freshB (g := gb200) (o := .cells #[.slice Ao36 t194.length co36, .int .i64 t197, .int .i64 t198] 26 (0, 0)) (kT BK200.out) k_ hn_)), Or.elim hk_ (fun hs_ => Or.elim hs_ (fun hs_ => hs_.2) (fun hs_ => hs_.2.2.2.2)) (fun hn_ => (Kd.freshB (g := gb220) (o := .cells #[.slice none 0 0, .int .i64 0, .int .i64 0] 37 (0, 0)) (kT BK220.out) k_ hn_))⟩)) (below_size (by repeat (first | (with_reducible first | exact HB.out | apply below_alloc | apply pw_below_drewN | apply below_drew1 | refine below_set ?_ GE189.out | refine below_set ?_ GE190.out | refine below_set ?_ GE200.out | refine below_set ?_ GE220.out) | exact HB.out))))
       have n4_ := Aside0.mk (blk_below (g := gb189) (o := .cells #[.slice A0_0 l0_0.length c0_0, .int .i64 a0_1, .int .i64 a0_2] 26 (0, 0)) (kT BK189.out) hb)
       have n5_ := Aside0.mk (blk_below (g := gb190) (o := .cells #[.int .i64 a2_0, .int .i64 a2_1, .int .i64 a2_2, .int .i64 a2_3, .bool a2_4, .slice A2_5 l2_5.length c2_5] 29 (0, 0)) (kT BK190.out) hb)
       have n6_ := Aside0.mk (blk_below (g := gb200) (o := .cells #[.slice Ao36 t194.length co36, .int .i64 t197, .int .i64 t198] 26 (0, 0)) (kT BK200.out) hb)
       have n7_ := Aside0.mk (blk_below (g := gb220) (o := .cells #[.slice none 0 0, .int .i64 0, .int .i64 0] 37 (0, 0)) (kT BK220.out) hb)
       have n8_ := Aside0.mk (below_step (by repeat (first | (with_reducible first | exact HB.out | apply below_alloc | apply pw_below_drewN | apply below_drew1 | refine below_set ?_ GE189.out | refine below_set ?_ GE190.out | refine below_set ?_ GE200.out | refine below_set ?_ GE220.out) | exact HB.out)) hb)
       clear HO196
       clear HO203
       clear HO213
       clear BK189
       clear BK190
       clear BK200
       clear BK220
       clear HB
       have HO196 := n0_
       have HO203 := n1_
       have HO213 := n2_
       have HO216 := n3_
       have BK189 := n4_
       have BK190 := n5_
       have BK200 := n6_
       have BK220 := n7_
       have HB := n8_
       clear n0_ n1_ n2_ n3_ n4_ n5_ n6_ n7_ n8_
       (try clear hb)
       (try clear hb2)
       (try clear hk)
       (try clear hi)
       (try clear ho0)
       refine hK.out _ _ ⟨(blk_cell BK189.out 0).trans rfl, (blk_cell BK189.out 1).trans rfl, (blk_cell BK189.out 2).trans rfl, (blk_cell BK190.out 0).trans rfl, (blk_cell BK190.out 1).trans rfl, (blk_cell BK190.out 2).trans rfl, (blk_cell BK190.out 3).trans rfl, (blk_cell BK190.out 4).trans rfl, (blk_cell BK190.out 5).trans rfl⟩ (fun hHeld => ?_)
       clear hK K
       refine norm_ (a' := ?_) ?_ ?_
       rotate_left
       ·show Act.put _ (some 42) _ = _
        simp only [Act.put, q1, q2, q3, i64_w, i32_w]
        rfl
       refine pure_ (i := 6) (N := some 36) (v := ?_) (a' := ?_) (bA 12 639) rfl rfl (an_ HT_.out) (fun _ _ _ h => h) (Or.inl ⟨by rfl, ?_⟩) ?_ ?_
       rotate_left
       ·intro w'
        go_simp
        with_reducible rfl
       rotate_left
       ·simp only [Act.put, q1, q2, q3, i64_w, i32_w]
        rfl
       refine pure_ (i := 7) (N := some 43) (v := ?_) (a' := ?_) (bA 12 767) rfl rfl (an_ HT_.out) (fun _ _ _ h => h) (Or.inl ⟨by rfl, ?_⟩) ?_ ?_
       rotate_left
       ·intro w'
        go_simp
        with_reducible rfl
       rotate_left
       ·simp only [Act.put, q1, q2, q3, i64_w, i32_w]
        rfl
       refine pure_ (i := 8) (N := some 44) (v := ?_) (a' := ?_) (bA 12 1023) rfl rfl (an_ HT_.out) (fun _ _ _ h => h) (Or.inl ⟨by rfl, ?_⟩) ?_ ?_
       rotate_left
       ·intro w'
        go_simp
        with_reducible rfl
       rotate_left
       ·simp only [Act.put, q1, q2, q3, i64_w, i32_w]
        rfl
       exact norm_ (by simp only [putAll, Act.put, List.setIfInBounds_toArray, List.set_cons_zero, List.set_cons_succ]) (hCont (.slice Ao45 t201.length co45, .slice Ao46 t211.length co46, v215, gb220) _ ⟨hHeld, (by (with_reducible repeat (first | apply Kd.V_alloc | apply Kd.V_drewN | apply Kd.V_drew)); exact Kd.V_mono HO196.out (fun _ hk => ⟨hk.1.2, ⟨hk.1.1.1, ⟨hk.1.1.2.1, ⟨hk.1.1.2.2, hk.2⟩⟩⟩⟩)), (by (with_reducible repeat (first | apply Kd.N_alloc | apply Kd.N_drewN | apply Kd.N_drew)); exact Kd.N_mono HO203.out (fun _ hk => ⟨hk.1.1, ⟨hk.1.2.1, ⟨hk.1.2.2, hk.2⟩⟩⟩)), (by (with_reducible repeat (first | apply Kd.V_alloc | apply Kd.V_drewN | apply Kd.V_drew)); exact HO213.out), (by (with_reducible repeat (first | apply Kd.V_alloc | apply Kd.V_drewN | apply Kd.V_drew)); exact HO216.out), (kT BK189.out), (kT BK190.out), (kT BK200.out), (kT BK220.out), GW220.out, GE220.out, NB189_220.out, NB220_189.out, NB190_220.out, NB220_190.out, NB200_220.out, NB220_200.out, (by repeat (first | (with_reducible first | exact HB.out | apply below_alloc | apply pw_below_drewN | apply below_drew1 | refine below_set ?_ GE189.out | refine below_set ?_ GE190.out | refine below_set ?_ GE200.out | refine below_set ?_ GE220.out) | exact HB.out))⟩)
     ·skip
      refine box_step ?hg (N := 9) ?hd (cs := #[.slice none 0 0, .int .i64 0, .int .i64 0]) (t := 37) ?hr ?_; (case hd => rfl); (case hg => rfl); (case hr => first | (go_simp; done) | (go_simp; rfl))
      intro gb220 hg w42 hbox hb
      have n0_ := Aside0.mk (Kd.V_below (Kd.V_elderB (by (with_reducible repeat (first | apply Kd.V_alloc | apply Kd.V_drewN | apply Kd.V_drew)); exact HO196.out) gb220 (Nat.le_of_eq hg.symm)) hb)
      have n1_ := Aside0.mk (blk_below (g := gb189) (o := .cells #[.slice A0_0 l0_0.length c0_0, .int .i64 a0_1, .int .i64 a0_2] 26 (0, 0)) (kT BK189.out) hb)
      have n2_ := Aside0.mk (blk_below (g := gb190) (o := .cells #[.int .i64 a2_0, .int .i64 a2_1, .int .i64 a2_2, .int .i64 a2_3, .bool a2_4, .slice A2_5 l2_5.length c2_5] 29 (0, 0)) (kT BK190.out) hb)
      have n3_ := Aside0.mk (blk_below (g := gb200) (o := .cells #[.slice Ao36 t194.length co36, .int .i64 t197, .int .i64 t198] 26 (0, 0)) (kT BK200.out) hb)
      have n4_ := Aside0.mk (below_step (bI GE189.out GE190.out GE200.out) hb)
      have n5_ := Aside0.mk (hbox)
      have n6_ := Aside0.mk (gT hg (bI GE189.out GE190.out GE200.out))
      have n7_ := Aside0.mk (gT hg (bI GE189.out GE190.out GE200.out))
      have n8_ := Aside0.mk ((by rw [hg]; exact Nat.ne_of_lt (blk_lt (g := gb189) (o := .cells #[.slice A0_0 l0_0.length c0_0, .int .i64 a0_1, .int .i64 a0_2] 26 (0, 0)) (kT BK189.out)) : gb189 ≠ gb220))
      have n9_ := Aside0.mk ((by rw [hg]; exact Nat.ne_of_gt (blk_lt (g := gb189) (o := .cells #[.slice A0_0 l0_0.length c0_0, .int .i64 a0_1, .int .i64 a0_2] 26 (0, 0)) (kT BK189.out)) : gb220 ≠ gb189))
      have n10_ := Aside0.mk ((by rw [hg]; exact Nat.ne_of_lt (blk_lt (g := gb190) (o := .cells #[.int .i64 a2_0, .int .i64 a2_1, .int .i64 a2_2, .int .i64 a2_3, .bool a2_4, .slice A2_5 l2_5.length c2_5] 29 (0, 0)) (kT BK190.out)) : gb190 ≠ gb220))
      have n11_ := Aside0.mk ((by rw [hg]; exact Nat.ne_of_gt (blk_lt (g := gb190) (o := .cells #[.int .i64 a2_0, .int .i64 a2_1, .int .i64 a2_2, .int .i64 a2_3, .bool a2_4, .slice A2_5 l2_5.length c2_5] 29 (0, 0)) (kT BK190.out)) : gb220 ≠ gb190))
      have n12_ := Aside0.mk ((by rw [hg]; exact Nat.ne_of_lt (blk_lt (g := gb200) (o := .cells #[.slice Ao36 t194.length co36, .int .i64 t197, .int .i64 t198] 26 (0, 0)) (kT BK200.out)) : gb200 ≠ gb220))
      have n13_ := Aside0.mk ((by rw [hg]; exact Nat.ne_of_gt (blk_lt (g := gb200) (o := .cells #[.slice Ao36 t194.length co36, .int .i64 t197, .int .i64 t198] 26 (0, 0)) (kT BK200.out)) : gb220 ≠ gb200))
      clear HO196
      clear BK189
      clear BK190
      clear BK200
      clear HB
      have HO196 := n0_
      have BK189 := n1_
      have BK190 := n2_
      have BK200 := n3_
      have HB := n4_
      have BK220 := n5_
      have GW220 := n6_
      have GE220 := n7_
      have NB189_220 := n8_
      have NB220_189 := n9_
      have NB190_220 := n10_
      have NB220_190 := n11_
      have NB200_220 := n12_
      have NB220_200 := n13_
      clear n0_ n1_ n2_ n3_ n4_ n5_ n6_ n7_ n8_ n9_ n10_ n11_ n12_ n13_
      clear hb hbox hg
      refine hK.out _ _ ⟨(blk_cell BK189.out 0).trans rfl, (blk_cell BK189.out 1).trans rfl, (blk_cell BK189.out 2).trans rfl, (blk_cell BK190.out 0).trans rfl, (blk_cell BK190.out 1).trans rfl, (blk_cell BK190.out 2).trans rfl, (blk_cell BK190.out 3).trans rfl, (blk_cell BK190.out 4).trans rfl, (blk_cell BK190.out 5).trans rfl⟩ (fun hHeld => ?_)
      clear hK K
      refine norm_ (a' := ?_) ?_ ?_
      rotate_left
      ·show Act.put _ (some 9) _ = _
       simp only [Act.put, q1, q2, q3, i64_w, i32_w]
       rfl
      refine one_ (i := 1) (N := some 38) (bA 12 527) rfl rfl (one_of HT_.out (by kernel_rfl)) (by decide) (fun K hK => ?_)
      refine goes_ Try.func19 (by kernel_rfl) rfl #[.agg #[.slice A0_0 l0_0.length c0_0, .int .i64 a0_1, .int .i64 a0_2]] (by rfl) rfl rfl mT ?_
      with_reducible refine (mortmainlaw06_its.calls kj3 (fun k_ => k_ < w.heap.size) _ _ l0_0 a0_1 a0_2 t201 t204 t205 _ ?side1 A27.out).mono ?_
      (case side1 => exact Kd.V_mk HC0_0.out (Kd.F_below (Kd.C_F k82_heap HR0_0.out) (by repeat (first | (with_reducible first | exact HB.out | apply below_alloc | apply pw_below_drewN | apply below_drew1 | refine below_set ?_ GE189.out | refine below_set ?_ GE190.out | refine below_set ?_ GE200.out | refine below_set ?_ GE220.out) | exact HB.out))))
      rintro e w43 ⟨v202, rfl, ho0, hb⟩
      refine ⟨_, rfl, ?_⟩
      have n0_ := Aside0.mk (Kd.V_elder' (by (with_reducible repeat (first | apply Kd.V_alloc | apply Kd.V_drewN | apply Kd.V_drew)); exact HO196.out) (by first | exact Kd.N_base ho0 | exact Kd.S_base ho0) hb)
      have n1_ := Aside0.mk (Kd.N_lower (Kd.N_mono (ok' := fun k_ => k_ ≠ gb189 ∧ k_ ≠ gb190 ∧ k_ ≠ gb200 ∧ k_ ≠ gb220) ho0 (fun k_ hk_ => ⟨Or.elim hk_ (fun hs_ => fun e_ => Nat.not_le.2 hs_ (by rw [e_]; exact GW189.out)) (fun hn_ => (Kd.freshB (g := gb189) (o := .cells #[.slice A0_0 l0_0.length c0_0, .int .i64 a0_1, .int .i64 a0_2] 26 (0, 0)) (kT BK189.out) k_ hn_)), Or.elim hk_ (fun hs_ => fun e_ => Nat.not_le.2 hs_ (by rw [e_]; exact GW190.out)) (fun hn_ => (Kd.freshB (g := gb190) (o := .cells #[.int .i64 a2_0, .int .i64 a2_1, .int .i64 a2_2, .int .i64 a2_3, .bool a2_4, .slice A2_5 l2_5.length c2_5] 29 (0, 0)) (kT BK190.out) k_ hn_)), Or.elim hk_ (fun hs_ => fun e_ => Nat.not_le.2 hs_ (by rw [e_]; exact GW200.out)) (fun hn_ => (Kd.freshB (g := gb200) (o := .cells #[.slice Ao36 t194.length co36, .int .i64 t197, .int .i64 t198] 26 (0, 0)) (kT BK200.out) k_ hn_)), Or.elim hk_ (fun hs_ => fun e_ => Nat.not_le.2 hs_ (by rw [e_]; exact GW220.out)) (fun hn_ => (Kd.freshB (g := gb220) (o := .cells #[.slice none 0 0, .int .i64 0, .int .i64 0] 37 (0, 0)) (kT BK220.out) k_ hn_))⟩)) (below_size (by repeat (first | (with_reducible first | exact HB.out | apply below_alloc | apply pw_below_drewN | apply below_drew1 | refine below_set ?_ GE189.out | refine below_set ?_ GE190.out | refine below_set ?_ GE200.out | refine below_set ?_ GE220.out) | exact HB.out))))
      have n2_ := Aside0.mk (blk_below (g := gb189) (o := .cells #[.slice A0_0 l0_0.length c0_0, .int .i64 a0_1, .int .i64 a0_2] 26 (0, 0)) (kT BK189.out) hb)
      have n3_ := Aside0.mk (blk_below (g := gb190) (o := .cells #[.int .i64 a2_0, .int .i64 a2_1, .int .i64 a2_2, .int .i64 a2_3, .bool a2_4, .slice A2_5 l2_5.length c2_5] 29 (0, 0)) (kT BK190.out) hb)
      have n4_ := Aside0.mk (blk_below (g := gb200) (o := .cells #[.slice Ao36 t194.length co36, .int .i64 t197, .int .i64 t198] 26 (0, 0)) (kT BK200.out) hb)
      have n5_ := Aside0.mk (blk_below (g := gb220) (o := .cells #[.slice none 0 0, .int .i64 0, .int .i64 0] 37 (0, 0)) (kT BK220.out) hb)
      have n6_ := Aside0.mk (below_step (by repeat (first | (with_reducible first | exact HB.out | apply below_alloc | apply pw_below_drewN | apply below_drew1 | refine below_set ?_ GE189.out | refine below_set ?_ GE190.out | refine below_set ?_ GE200.out | refine below_set ?_ GE220.out) | exact HB.out)) hb)
      clear HO196
      clear BK189
      clear BK190
      clear BK200
      clear BK220
      clear HB
      have HO196 := n0_
      have HO203 := n1_
      have BK189 := n2_
      have BK190 := n3_
      have BK200 := n4_
      have BK220 := n5_
      have HB := n6_
      clear n0_ n1_ n2_ n3_ n4_ n5_ n6_
      (try clear hb)
      (try clear hb2)
      (try clear hk)
      (try clear hi)
      (try clear ho0)
      refine hK.out _ _ ⟨(blk_cell BK189.out 0).trans rfl, (blk_cell BK189.out 1).trans rfl, (blk_cell BK189.out 2).trans rfl, (blk_cell BK190.out 0).trans rfl, (blk_cell BK190.out 1).trans rfl, (blk_cell BK190.out 2).trans rfl, (blk_cell BK190.out 3).trans rfl, (blk_cell BK190.out 4).trans rfl, (blk_cell BK190.out 5).trans rfl⟩ (fun hHeld => ?_)
      clear hK K
      refine norm_ (a' := ?_) ?_ ?_
      rotate_left
      ·show Act.put _ (some 38) _ = _
       simp only [Act.put, q1, q2, q3, i64_w, i32_w]
       rfl
      refine one_ (i := 4) (N := some 41) (bA 12 543) rfl rfl (one_of HT_.out (by kernel_rfl)) (by decide) (fun K hK => ?_)
      refine goes_ Try.func20 (by kernel_rfl) rfl #[.agg #[.int .i64 a2_0, .int .i64 a2_1, .int .i64 a2_2, .int .i64 a2_3, .bool a2_4, .slice A2_5 l2_5.length c2_5]] (by rfl) rfl rfl mT ?_
      with_reducible refine (mortmainlaw06_obj.calls a2_0 a2_1 a2_2 a2_3 a2_4 (fun k_ => k_ < w.heap.size) _ _ l2_5 t206 t207 t208 t209 t210 t211 _ ?side1 A28.out).mono ?_
      (case side1 => exact Kd.V_mk HC2_5.out (Kd.F_below (Kd.C_F (Kd.heap_int .i64) HR2_5.out) (by repeat (first | (with_reducible first | exact HB.out | apply below_alloc | apply pw_below_drewN | apply below_drew1 | refine below_set ?_ GE189.out | refine below_set ?_ GE190.out | refine below_set ?_ GE200.out | refine below_set ?_ GE220.out) | exact HB.out))))
      rintro e w44 ⟨v212, rfl, ho0, hb⟩
      refine ⟨_, rfl, ?_⟩
      have n0_ := Aside0.mk (Kd.V_below (by (with_reducible repeat (first | apply Kd.V_alloc | apply Kd.V_drewN | apply Kd.V_drew)); exact HO196.out) hb)
      have n1_ := Aside0.mk (Kd.N_below (by (with_reducible repeat (first | apply Kd.N_alloc | apply Kd.N_drewN | apply Kd.N_drew)); exact HO203.out) hb)
      have n2_ := Aside0.mk (Kd.V_lower (Kd.V_mono (ok' := fun k_ => some k_ ≠ (v202 : Value).ownBlock ∧ k_ ≠ gb189 ∧ k_ ≠ gb190 ∧ k_ ≠ gb200 ∧ k_ ≠ gb220) ho0 (fun k_ hk_ => ⟨Or.elim hk_ (fun hs_ => fun e_ => Nat.not_le.2 hs_ (Kd.N_base HO203.out k_ e_.symm)) (fun hn_ => (Kd.fresh' (Kd.N_lt (by (with_reducible repeat (first | apply Kd.N_alloc | apply Kd.N_drewN | apply Kd.N_drew)); exact HO203.out)) k_ hn_)), Or.elim hk_ (fun hs_ => fun e_ => Nat.not_le.2 hs_ (by rw [e_]; exact GW189.out)) (fun hn_ => (Kd.freshB (g := gb189) (o := .cells #[.slice A0_0 l0_0.length c0_0, .int .i64 a0_1, .int .i64 a0_2] 26 (0, 0)) (kT BK189.out) k_ hn_)), Or.elim hk_ (fun hs_ => fun e_ => Nat.not_le.2 hs_ (by rw [e_]; exact GW190.out)) (fun hn_ => (Kd.freshB (g := gb190) (o := .cells #[.int .i64 a2_0, .int .i64 a2_1, .int .i64 a2_2, .int .i64 a2_3, .bool a2_4, .slice A2_5 l2_5.length c2_5] 29 (0, 0)) (kT BK190.out) k_ hn_)), Or.elim hk_ (fun hs_ => fun e_ => Nat.not_le.2 hs_ (by rw [e_]; exact GW200.out)) (fun hn_ => (Kd.freshB (g := gb200) (o := .cells #[.slice Ao36 t194.length co36, .int .i64 t197, .int .i64 t198] 26 (0, 0)) (kT BK200.out) k_ hn_)), Or.elim hk_ (fun hs_ => fun e_ => Nat.not_le.2 hs_ (by rw [e_]; exact GW220.out)) (fun hn_ => (Kd.freshB (g := gb220) (o := .cells #[.slice none 0 0, .int .i64 0, .int .i64 0] 37 (0, 0)) (kT BK220.out) k_ hn_))⟩)) (below_size (by repeat (first | (with_reducible first | exact HB.out | apply below_alloc | apply pw_below_drewN | apply below_drew1 | refine below_set ?_ GE189.out | refine below_set ?_ GE190.out | refine below_set ?_ GE200.out | refine below_set ?_ GE220.out) | exact HB.out))))
      have n3_ := Aside0.mk (blk_below (g := gb189) (o := .cells #[.slice A0_0 l0_0.length c0_0, .int .i64 a0_1, .int .i64 a0_2] 26 (0, 0)) (kT BK189.out) hb)
      have n4_ := Aside0.mk (blk_below (g := gb190) (o := .cells #[.int .i64 a2_0, .int .i64 a2_1, .int .i64 a2_2, .int .i64 a2_3, .bool a2_4, .slice A2_5 l2_5.length c2_5] 29 (0, 0)) (kT BK190.out) hb)
      have n5_ := Aside0.mk (blk_below (g := gb200) (o := .cells #[.slice Ao36 t194.length co36, .int .i64 t197, .int .i64 t198] 26 (0, 0)) (kT BK200.out) hb)
      have n6_ := Aside0.mk (blk_below (g := gb220) (o := .cells #[.slice none 0 0, .int .i64 0, .int .i64 0] 37 (0, 0)) (kT BK220.out) hb)
      have n7_ := Aside0.mk (below_step (by repeat (first | (with_reducible first | exact HB.out | apply below_alloc | apply pw_below_drewN | apply below_drew1 | refine below_set ?_ GE189.out | refine below_set ?_ GE190.out | refine below_set ?_ GE200.out | refine below_set ?_ GE220.out) | exact HB.out)) hb)
      clear HO196
      clear HO203
      clear BK189
      clear BK190
      clear BK200
      clear BK220
      clear HB
      have HO196 := n0_
      have HO203 := n1_
      have HO213 := n2_
      have BK189 := n3_
      have BK190 := n4_
      have BK200 := n5_
      have BK220 := n6_
      have HB := n7_
      clear n0_ n1_ n2_ n3_ n4_ n5_ n6_ n7_
      (try clear hb)
      (try clear hb2)
      (try clear hk)
      (try clear hi)
      (try clear ho0)
      obtain ⟨Ao45, co45, eo45⟩ := Kd.N_slice HO203.out
      (first | subst eo45 | (injection eo45 with f1_ f2_ f3_; have f4_ := f1_.symm; have f5_ := f3_.symm; clear f1_ f2_ f3_; subst f4_; subst f5_))
      obtain ⟨Ao46, co46, eo46⟩ := Kd.V_slice HO213.out
      (first | subst eo46 | (injection eo46 with f1_ f2_ f3_; have f4_ := f1_.symm; have f5_ := f3_.symm; clear f1_ f2_ f3_; subst f4_; subst f5_))
      refine hK.out _ _ ⟨(blk_cell BK189.out 0).trans rfl, (blk_cell BK189.out 1).trans rfl, (blk_cell BK189.out 2).trans rfl, (blk_cell BK190.out 0).trans rfl, (blk_cell BK190.out 1).trans rfl, (blk_cell BK190.out 2).trans rfl, (blk_cell BK190.out 3).trans rfl, (blk_cell BK190.out 4).trans rfl, (blk_cell BK190.out 5).trans rfl⟩ (fun hHeld => ?_)
      clear hK K
      refine norm_ (a' := ?_) ?_ ?_
      rotate_left
      ·show Act.put _ (some 41) _ = _
       simp only [Act.put, q1, q2, q3, i64_w, i32_w]
       rfl
      refine one_ (i := 5) (N := some 42) (bA 12 575) rfl rfl (one_of HT_.out (by kernel_rfl)) (by decide) (fun K hK => ?_)
      refine goes_ Try.func18 (by kernel_rfl) rfl #[.agg #[.slice Ao45 t201.length co45, .int .i64 t204, .int .i64 t205], .int .i64 a1, .agg #[.int .i64 t206, .int .i64 t207, .int .i64 t208, .int .i64 t209, .bool t210, .slice Ao46 t211.length co46]] (by rfl) rfl rfl mT ?_
      with_reducible refine (mortmainref06_Set.calls kj3 (fun k_ => (k_ ≠ gb189 ∧ (k_ ≠ gb190 ∧ (k_ ≠ gb200 ∧ k_ ≠ gb220)))) _ _ t201 t204 t205 a1 t206 t207 t208 t209 t210 (fun k_ => (some k_ ≠ (.slice Ao45 t201.length co45 : Value).ownBlock ∧ (k_ ≠ gb189 ∧ (k_ ≠ gb190 ∧ (k_ ≠ gb200 ∧ k_ ≠ gb220))))) _ _ t211 t214 t217 t218 t219 _ ?side1 ?side2 A29.out).mono ?_
      (case side1 => exact Kd.N_V (HO203.out))
      (case side2 => exact HO213.out)
      rintro e w47 ⟨v215, rfl, ho0, hb⟩
      refine ⟨_, rfl, ?_⟩
      have n0_ := Aside0.mk (Kd.V_below (by (with_reducible repeat (first | apply Kd.V_alloc | apply Kd.V_drewN | apply Kd.V_drew)); exact HO196.out) hb)
      have n1_ := Aside0.mk (Kd.N_below (by (with_reducible repeat (first | apply Kd.N_alloc | apply Kd.N_drewN | apply Kd.N_drew)); exact HO203.out) hb)
      have n2_ := Aside0.mk (Kd.V_below (by (with_reducible repeat (first | apply Kd.V_alloc | apply Kd.V_drewN | apply Kd.V_drew)); exact HO213.out) hb)
      have n3_ := Aside0.mk (Kd.V_lower (Kd.V_mono (ok' := fun k_ => k_ ≠ gb189 ∧ k_ ≠ gb190 ∧ k_ ≠ gb200 ∧ k_ ≠ gb220) ho0 (fun k_ hk_ => ⟨Or.elim hk_ (fun hs_ => Or.elim hs_ (fun hs_ => hs_.1) (fun hs_ => hs_.2.1)) (fun hn_ => (Kd.freshB (g := gb189) (o := .cells #[.slice A0_0 l0_0.length c0_0, .int .i64 a0_1, .int .i64 a0_2] 26 (0, 0)) (kT BK189.out) k_ hn_)), Or.elim hk_ (fun hs_ => Or.elim hs_ (fun hs_ => hs_.2.1) (fun hs_ => hs_.2.2.1)) (fun hn_ => (Kd.freshB (g := gb190) (o := .cells #[.int .i64 a2_0, .int .i64 a2_1, .int .i64 a2_2, .int .i64 a2_3, .bool a2_4, .slice A2_5 l2_5.length c2_5] 29 (0, 0)) (kT BK190.out) k_ hn_)), Or.elim hk_ (fun hs_ => Or.elim hs_ (fun hs_ => hs_.2.2.1) (fun hs_ => hs_.2.2.2.1)) (fun hn_ => (Kd.freshB (g := gb200) (o := .cells #[.slice Ao36 t194.length co36, .int .i64 t197, .int .i64 t198] 26 (0, 0)) (kT BK200.out) k_ hn_)), Or.elim hk_ (fun hs_ => Or.elim hs_ (fun hs_ => hs_.2.2.2) (fun hs_ => hs_.2.2.2.2)) (fun hn_ => (Kd.freshB (g := gb220) (o := .cells #[.slice none 0 0, .int .i64 0, .int .i64 0] 37 (0, 0)) (kT BK220.out) k_ hn_))⟩)) (below_size (by repeat (first | (with_reducible first | exact HB.out | apply below_alloc | apply pw_below_drewN | apply below_drew1 | refine below_set ?_ GE189.out | refine below_set ?_ GE190.out | refine below_set ?_ GE200.out | refine below_set ?_ GE220.out) | exact HB.out))))
      have n4_ := Aside0.mk (blk_below (g := gb189) (o := .cells #[.slice A0_0 l0_0.length c0_0, .int .i64 a0_1, .int .i64 a0_2] 26 (0, 0)) (kT BK189.out) hb)
      have n5_ := Aside0.mk (blk_below (g := gb190) (o := .cells #[.int .i64 a2_0, .int .i64 a2_1, .int .i64 a2_2, .int .i64 a2_3, .bool a2_4, .slice A2_5 l2_5.length c2_5] 29 (0, 0)) (kT BK190.out) hb)
      have n6_ := Aside0.mk (blk_below (g := gb200) (o := .cells #[.slice Ao36 t194.length co36, .int .i64 t197, .int .i64 t198] 26 (0, 0)) (kT BK200.out) hb)
      have n7_ := Aside0.mk (blk_below (g := gb220) (o := .cells #[.slice none 0 0, .int .i64 0, .int .i64 0] 37 (0, 0)) (kT BK220.out) hb)
      have n8_ := Aside0.mk (below_step (by repeat (first | (with_reducible first | exact HB.out | apply below_alloc | apply pw_below_drewN | apply below_drew1 | refine below_set ?_ GE189.out | refine below_set ?_ GE190.out | refine below_set ?_ GE200.out | refine below_set ?_ GE220.out) | exact HB.out)) hb)
      clear HO196
      clear HO203
      clear HO213
      clear BK189
      clear BK190
      clear BK200
      clear BK220
      clear HB
      have HO196 := n0_
      have HO203 := n1_
      have HO213 := n2_
      have HO216 := n3_
      have BK189 := n4_
      have BK190 := n5_
      have BK200 := n6_
      have BK220 := n7_
      have HB := n8_
      clear n0_ n1_ n2_ n3_ n4_ n5_ n6_ n7_ n8_
      (try clear hb)
      (try clear hb2)
      (try clear hk)
      (try clear hi)
      (try clear ho0)
      refine hK.out _ _ ⟨(blk_cell BK189.out 0).trans rfl, (blk_cell BK189.out 1).trans rfl, (blk_cell BK189.out 2).trans rfl, (blk_cell BK190.out 0).trans rfl, (blk_cell BK190.out 1).trans rfl, (blk_cell BK190.out 2).trans rfl, (blk_cell BK190.out 3).trans rfl, (blk_cell BK190.out 4).trans rfl, (blk_cell BK190.out 5).trans rfl⟩ (fun hHeld => ?_)
      clear hK K
      refine norm_ (a' := ?_) ?_ ?_
      rotate_left
      ·show Act.put _ (some 42) _ = _
       simp only [Act.put, q1, q2, q3, i64_w, i32_w]
       rfl
      refine pure_ (i := 6) (N := some 36) (v := ?_) (a' := ?_) (bA 12 639) rfl rfl (an_ HT_.out) (fun _ _ _ h => h) (Or.inl ⟨by rfl, ?_⟩) ?_ ?_
      rotate_left
      ·intro w'
       go_simp
       with_reducible rfl
      rotate_left
      ·simp only [Act.put, q1, q2, q3, i64_w, i32_w]
       rfl
      refine pure_ (i := 7) (N := some 43) (v := ?_) (a' := ?_) (bA 12 767) rfl rfl (an_ HT_.out) (fun _ _ _ h => h) (Or.inl ⟨by rfl, ?_⟩) ?_ ?_
      rotate_left
      ·intro w'
       go_simp
       with_reducible rfl
      rotate_left
      ·simp only [Act.put, q1, q2, q3, i64_w, i32_w]
       rfl
      refine pure_ (i := 8) (N := some 44) (v := ?_) (a' := ?_) (bA 12 1023) rfl rfl (an_ HT_.out) (fun _ _ _ h => h) (Or.inl ⟨by rfl, ?_⟩) ?_ ?_
      rotate_left
      ·intro w'
       go_simp
       with_reducible rfl
      rotate_left
      ·simp only [Act.put, q1, q2, q3, i64_w, i32_w]
       rfl
      exact norm_ (by simp only [putAll, Act.put, List.setIfInBounds_toArray, List.set_cons_zero, List.set_cons_succ]) (hCont (.slice Ao45 t201.length co45, .slice Ao46 t211.length co46, v215, gb220) _ ⟨hHeld, (by (with_reducible repeat (first | apply Kd.V_alloc | apply Kd.V_drewN | apply Kd.V_drew)); exact Kd.V_mono HO196.out (fun _ hk => ⟨hk.2, ⟨hk.1.1.1, ⟨hk.1.1.2.1, ⟨hk.1.1.2.2, hk.1.2⟩⟩⟩⟩)), (by (with_reducible repeat (first | apply Kd.N_alloc | apply Kd.N_drewN | apply Kd.N_drew)); exact HO203.out), (by (with_reducible repeat (first | apply Kd.V_alloc | apply Kd.V_drewN | apply Kd.V_drew)); exact HO213.out), (by (with_reducible repeat (first | apply Kd.V_alloc | apply Kd.V_drewN | apply Kd.V_drew)); exact HO216.out), (kT BK189.out), (kT BK190.out), (kT BK200.out), (kT BK220.out), GW220.out, GE220.out, NB189_220.out, NB220_189.out, NB190_220.out, NB220_190.out, NB200_220.out, NB220_200.out, (by repeat (first | (with_reducible first | exact HB.out | apply below_alloc | apply pw_below_drewN | apply below_drew1 | refine below_set ?_ GE189.out | refine below_set ?_ GE190.out | refine below_set ?_ GE200.out | refine below_set ?_ GE220.out) | exact HB.out))⟩)
    rintro ⟨v202, v212, v215, gb220⟩ w48 ⟨hS_, h0_, h1_, h2_, h3_, h4_, h5_, h6_, h7_, h8_, h9_, h10_, h11_, h12_, h13_, h14_, h15_, h16_⟩
    have n0_ : Aside0 (Kd.V k82 82 w48 w.heap.size (fun k_ => some k_ ≠ (v202 : Value).ownBlock ∧ k_ ≠ gb189 ∧ k_ ≠ gb190 ∧ k_ ≠ gb200 ∧ k_ ≠ gb220) (.slice Ao36 t194.length co36) t194) := ⟨h0_⟩
    have n1_ : Aside0 (Kd.N k84 84 w48 w.heap.size (fun k_ => k_ ≠ gb189 ∧ k_ ≠ gb190 ∧ k_ ≠ gb200 ∧ k_ ≠ gb220) v202 t201) := ⟨h1_⟩
    have n2_ : Aside0 (Kd.V (Kd.int .i64) 3 w48 w.heap.size (fun k_ => some k_ ≠ (v202 : Value).ownBlock ∧ k_ ≠ gb189 ∧ k_ ≠ gb190 ∧ k_ ≠ gb200 ∧ k_ ≠ gb220) v212 t211) := ⟨h2_⟩
    have n3_ : Aside0 (Kd.V k84 84 w48 w.heap.size (fun k_ => k_ ≠ gb189 ∧ k_ ≠ gb190 ∧ k_ ≠ gb200 ∧ k_ ≠ gb220) v215 t214) := ⟨h3_⟩
    have n4_ : Aside0 (w48.heap[gb189]? = some (.cells #[.slice A0_0 l0_0.length c0_0, .int .i64 a0_1, .int .i64 a0_2] 26 (0, 0))) := ⟨h4_⟩
    have n5_ : Aside0 (w48.heap[gb190]? = some (.cells #[.int .i64 a2_0, .int .i64 a2_1, .int .i64 a2_2, .int .i64 a2_3, .bool a2_4, .slice A2_5 l2_5.length c2_5] 29 (0, 0))) := ⟨h5_⟩
    have n6_ : Aside0 (w48.heap[gb200]? = some (.cells #[.slice Ao36 t194.length co36, .int .i64 t197, .int .i64 t198] 26 (0, 0))) := ⟨h6_⟩
    have n7_ : Aside0 (w48.heap[gb220]? = some (.cells #[.slice none 0 0, .int .i64 0, .int .i64 0] 37 (0, 0))) := ⟨h7_⟩
    have n8_ : Aside0 (w.heap.size ≤ gb220) := ⟨h8_⟩
    have n9_ : Aside0 (w.heap.size ≤ gb220) := ⟨h9_⟩
    have n10_ : Aside0 (gb189 ≠ gb220) := ⟨h10_⟩
    have n11_ : Aside0 (gb220 ≠ gb189) := ⟨h11_⟩
    have n12_ : Aside0 (gb190 ≠ gb220) := ⟨h12_⟩
    have n13_ : Aside0 (gb220 ≠ gb190) := ⟨h13_⟩
    have n14_ : Aside0 (gb200 ≠ gb220) := ⟨h14_⟩
    have n15_ : Aside0 (gb220 ≠ gb200) := ⟨h15_⟩
    have n16_ : Aside0 (Below w.heap.size w w48) := ⟨h16_⟩
    clear HO196
    clear BK189
    clear BK190
    clear BK200
    clear HB
    clear h0_ h1_ h2_ h3_ h4_ h5_ h6_ h7_ h8_ h9_ h10_ h11_ h12_ h13_ h14_ h15_ h16_
    have HO196 := n0_
    have HO203 := n1_
    have HO213 := n2_
    have HO216 := n3_
    have BK189 := n4_
    have BK190 := n5_
    have BK200 := n6_
    have BK220 := n7_
    have GW220 := n8_
    have GE220 := n9_
    have NB189_220 := n10_
    have NB220_189 := n11_
    have NB190_220 := n12_
    have NB220_190 := n13_
    have NB200_220 := n14_
    have NB220_200 := n15_
    have HB := n16_
    clear n0_ n1_ n2_ n3_ n4_ n5_ n6_ n7_ n8_ n9_ n10_ n11_ n12_ n13_ n14_ n15_ n16_
    have hHeld : w48.cell? ⟨gb189, 0, none⟩ = some (.slice A0_0 l0_0.length c0_0) ∧ w48.cell? ⟨gb189, 1, none⟩ = some (.int .i64 a0_1) ∧ w48.cell? ⟨gb189, 2, none⟩ = some (.int .i64 a0_2) ∧ w48.cell? ⟨gb190, 0, none⟩ = some (.int .i64 a2_0) ∧ w48.cell? ⟨gb190, 1, none⟩ = some (.int .i64 a2_1) ∧ w48.cell? ⟨gb190, 2, none⟩ = some (.int .i64 a2_2) ∧ w48.cell? ⟨gb190, 3, none⟩ = some (.int .i64 a2_3) ∧ w48.cell? ⟨gb190, 4, none⟩ = some (.bool a2_4) ∧ w48.cell? ⟨gb190, 5, none⟩ = some (.slice A2_5 l2_5.length c2_5) := hS_
    obtain ⟨Ao49, co49, eo49⟩ := Kd.V_slice HO216.out
    (first | subst eo49 | (injection eo49 with f1_ f2_ f3_; have f4_ := f1_.symm; have f5_ := f3_.symm; clear f1_ f2_ f3_; subst f4_; subst f5_))
    refine norm_ (a' := ?_) ?_ ?_
    rotate_left
    ·simp only [putAll, Act.put, List.setIfInBounds_toArray, List.set_cons_zero, List.set_cons_succ]
     rfl
    refine one_ (i := 10) (N := none) (bA 12 2047) rfl rfl (one_of HT_.out (by kernel_rfl)) (by decide) (fun K hK => ?_)
    have hs50 : w48.cell? ⟨gb220, 0, none⟩ = some (.slice none 0 0) := (blk_cell BK220.out 0).trans rfl
    have hfs50 := blk_frozen BK220.out 0
    have hns50_0 := NB189_220.out
    have hns50_1 := NB190_220.out
    have hns50_2 := NB200_220.out
    have hms50_0 := NB220_189.out
    have hms50_1 := NB220_190.out
    have hms50_2 := NB220_200.out
    have hs51 : w48.cell? ⟨gb220, 1, none⟩ = some (.int .i64 0) := (blk_cell BK220.out 1).trans rfl
    have hfs51 := blk_frozen BK220.out 1
    have hns51_0 := NB189_220.out
    have hns51_1 := NB190_220.out
    have hns51_2 := NB200_220.out
    have hms51_0 := NB220_189.out
    have hms51_1 := NB220_190.out
    have hms51_2 := NB220_200.out
    have hs52 : w48.cell? ⟨gb220, 2, none⟩ = some (.int .i64 0) := (blk_cell BK220.out 2).trans rfl
    have hfs52 := blk_frozen BK220.out 2
    have hns52_0 := NB189_220.out
    have hns52_1 := NB190_220.out
    have hns52_2 := NB200_220.out
    have hms52_0 := NB220_189.out
    have hms52_1 := NB220_190.out
    have hms52_2 := NB220_200.out
    refine skip_ (w1 := ?_) (by rfl) rfl ?_ ?_
    rotate_left
    ·go_simp
     rfl
    refine hK.out _ _ ⟨((cell_far (p := ⟨gb220, _, none⟩) NB189_220.out _).trans (((cell_far (p := ⟨gb220, _, none⟩) NB189_220.out _).trans (((cell_far (p := ⟨gb220, _, none⟩) NB189_220.out _).trans (hHeld.1)))))), ((cell_far (p := ⟨gb220, _, none⟩) NB189_220.out _).trans (((cell_far (p := ⟨gb220, _, none⟩) NB189_220.out _).trans (((cell_far (p := ⟨gb220, _, none⟩) NB189_220.out _).trans (hHeld.2.1)))))), ((cell_far (p := ⟨gb220, _, none⟩) NB189_220.out _).trans (((cell_far (p := ⟨gb220, _, none⟩) NB189_220.out _).trans (((cell_far (p := ⟨gb220, _, none⟩) NB189_220.out _).trans (hHeld.2.2.1)))))), ((cell_far (p := ⟨gb220, _, none⟩) NB190_220.out _).trans (((cell_far (p := ⟨gb220, _, none⟩) NB190_220.out _).trans (((cell_far (p := ⟨gb220, _, none⟩) NB190_220.out _).trans (hHeld.2.2.2.1)))))), ((cell_far (p := ⟨gb220, _, none⟩) NB190_220.out _).trans (((cell_far (p := ⟨gb220, _, none⟩) NB190_220.out _).trans (((cell_far (p := ⟨gb220, _, none⟩) NB190_220.out _).trans (hHeld.2.2.2.2.1)))))), ((cell_far (p := ⟨gb220, _, none⟩) NB190_220.out _).trans (((cell_far (p := ⟨gb220, _, none⟩) NB190_220.out _).trans (((cell_far (p := ⟨gb220, _, none⟩) NB190_220.out _).trans (hHeld.2.2.2.2.2.1)))))), ((cell_far (p := ⟨gb220, _, none⟩) NB190_220.out _).trans (((cell_far (p := ⟨gb220, _, none⟩) NB190_220.out _).trans (((cell_far (p := ⟨gb220, _, none⟩) NB190_220.out _).trans (hHeld.2.2.2.2.2.2.1)))))), ((cell_far (p := ⟨gb220, _, none⟩) NB190_220.out _).trans (((cell_far (p := ⟨gb220, _, none⟩) NB190_220.out _).trans (((cell_far (p := ⟨gb220, _, none⟩) NB190_220.out _).trans (hHeld.2.2.2.2.2.2.2.1)))))), ((cell_far (p := ⟨gb220, _, none⟩) NB190_220.out _).trans (((cell_far (p := ⟨gb220, _, none⟩) NB190_220.out _).trans (((cell_far (p := ⟨gb220, _, none⟩) NB190_220.out _).trans (hHeld.2.2.2.2.2.2.2.2))))))⟩ (fun hHeld => ?_)
    clear hK K
    refine pure_ (i := 11) (N := some 10) (v := ?_) (a' := ?_) (bA 12 4095) rfl rfl (an_ HT_.out) (fun _ _ _ h => h) (Or.inl ⟨by rfl, ?_⟩) ?_ ?_
    rotate_left
    ·intro w'
     go_simp
     with_reducible rfl
    rotate_left
    ·simp only [Act.put, q1, q2, q3, i64_w, i32_w]
     rfl
    refine done_ (done_of HT_.out (by kernel_rfl)) ?_
    go_upto_region 5 with (fail)
    go_cut [54] (fun v54 wc => ∃ (kq : Nat) (x54_29 : Bool), v54 = .bool x54_29 ∧ Aside0 (mortmainlaw06_StoreSets.j1 kq a1 x54_29 l0_0 a0_1 a0_2 a2_0 a2_1 a2_2 a2_3 a2_4 l2_5 t194 t197 t198 t214 t217 t218 = some r) ∧ Aside0 (kq ≤ kj3) ∧ Aside0 (Kd.V k82 82 wc w.heap.size (fun k_ => k_ ≠ gb189 ∧ k_ ≠ gb190 ∧ k_ ≠ gb200 ∧ k_ ≠ gb220) (.slice Ao36 t194.length co36) t194) ∧ Aside0 (Kd.V k84 84 wc w.heap.size (fun k_ => k_ ≠ gb189 ∧ k_ ≠ gb190 ∧ k_ ≠ gb200 ∧ k_ ≠ gb220) (.slice Ao49 t214.length co49) t214) ∧ Aside0 (wc.heap[gb189]? = some (.cells #[(.slice A0_0 l0_0.length c0_0), .int .i64 a0_1, .int .i64 a0_2] 26 (0, 0))) ∧ Aside0 (wc.heap[gb190]? = some (.cells #[.int .i64 a2_0, .int .i64 a2_1, .int .i64 a2_2, .int .i64 a2_3, .bool a2_4, (.slice A2_5 l2_5.length c2_5)] 29 (0, 0))) ∧ Aside0 (wc.heap[gb200]? = some (.cells #[(.slice Ao36 t194.length co36), .int .i64 t197, .int .i64 t198] 26 (0, 0))) ∧ Aside0 (wc.heap[gb220]? = some (.cells #[(.slice Ao49 t214.length co49), .int .i64 t217, .int .i64 t218] 37 (0, 0))) ∧ Aside0 (Below w.heap.size w wc))
    case first =>
     have H := HC30.out
     clear HC30
     replace H := Option.bind_eq_some_iff.mp H
     obtain ⟨⟨t221, t224, t225⟩, A530, H⟩ := H
     replace H : ((mortmainref06_Same.f kj3 t221 t224 t225 t214 t217 t218).bind fun t226 => (if t226 = true then (mortmainlaw06_StoreSets.j1 kj3 a1 (t199 != t219) l0_0 a0_1 a0_2 a2_0 a2_1 a2_2 a2_3 a2_4 l2_5 t194 t197 t198 t214 t217 t218) else (none))) = some r := H
     have A53 := Aside0.mk A530
     clear A530
     replace H := Option.bind_eq_some_iff.mp H
     obtain ⟨t226, A540, H⟩ := H
     replace H : (if t226 = true then (mortmainlaw06_StoreSets.j1 kj3 a1 (t199 != t219) l0_0 a0_1 a0_2 a2_0 a2_1 a2_2 a2_3 a2_4 l2_5 t194 t197 t198 t214 t217 t218) else (none)) = some r := H
     have A54 := Aside0.mk A540
     clear A540
     by_cases c55 : t226 = true
     ·subst c55
      have H1 : (mortmainlaw06_StoreSets.j1 kj3 a1 (t199 != t219) l0_0 a0_1 a0_2 a2_0 a2_1 a2_2 a2_3 a2_4 l2_5 t194 t197 t198 t214 t217 t218) = some r := by rw [if_pos rfl] at H; exact H
      clear H
      have H := H1
      clear H1
      have H' := Aside0.mk H
      clear H
      try go_wp2
      have n0_ : Aside0 (Kd.V k82 82 (((w48.setCell ⟨gb220, 0, none⟩ (.slice Ao49 t214.length co49)).setCell ⟨gb220, 1, none⟩ (.int .i64 t217)).setCell ⟨gb220, 2, none⟩ (.int .i64 t218)) w.heap.size (fun k_ => some k_ ≠ (v202 : Value).ownBlock ∧ k_ ≠ gb189 ∧ k_ ≠ gb190 ∧ k_ ≠ gb200 ∧ k_ ≠ gb220) (.slice Ao36 t194.length co36) t194) := ⟨by (with_reducible repeat (first | apply Kd.V_alloc | apply Kd.V_drewN | apply Kd.V_drew)); exact Kd.V_mono (Kd.V_far (p := ⟨gb220, 2, none⟩) (Kd.V_far (p := ⟨gb220, 1, none⟩) (Kd.V_far (p := ⟨gb220, 0, none⟩) (Kd.V_mono HO196.out (fun k_ hk => (⟨hk, hk.2.2.2.2⟩ : _ ∧ k_ ≠ gb220))) (fun _ hk => hk.2) (.slice Ao49 t214.length co49)) (fun _ hk => hk.2) (.int .i64 t217)) (fun _ hk => hk.2) (.int .i64 t218)) (fun _ hk => ⟨hk.1.1, ⟨hk.1.2.1, ⟨hk.1.2.2.1, ⟨hk.1.2.2.2.1, hk.1.2.2.2.2⟩⟩⟩⟩)⟩
      have n1_ : Aside0 (Kd.N k84 84 (((w48.setCell ⟨gb220, 0, none⟩ (.slice Ao49 t214.length co49)).setCell ⟨gb220, 1, none⟩ (.int .i64 t217)).setCell ⟨gb220, 2, none⟩ (.int .i64 t218)) w.heap.size (fun k_ => k_ ≠ gb189 ∧ k_ ≠ gb190 ∧ k_ ≠ gb200 ∧ k_ ≠ gb220) v202 t201) := ⟨by (with_reducible repeat (first | apply Kd.N_alloc | apply Kd.N_drewN | apply Kd.N_drew)); exact Kd.N_mono (Kd.N_far (p := ⟨gb220, 2, none⟩) (Kd.N_far (p := ⟨gb220, 1, none⟩) (Kd.N_far (p := ⟨gb220, 0, none⟩) (Kd.N_mono HO203.out (fun k_ hk => (⟨hk, hk.2.2.2⟩ : _ ∧ k_ ≠ gb220))) (fun _ hk => hk.2) (.slice Ao49 t214.length co49)) (fun _ hk => hk.2) (.int .i64 t217)) (fun _ hk => hk.2) (.int .i64 t218)) (fun _ hk => ⟨hk.1.1, ⟨hk.1.2.1, ⟨hk.1.2.2.1, hk.1.2.2.2⟩⟩⟩)⟩
      have n2_ : Aside0 (Kd.V (Kd.int .i64) 3 (((w48.setCell ⟨gb220, 0, none⟩ (.slice Ao49 t214.length co49)).setCell ⟨gb220, 1, none⟩ (.int .i64 t217)).setCell ⟨gb220, 2, none⟩ (.int .i64 t218)) w.heap.size (fun k_ => some k_ ≠ (v202 : Value).ownBlock ∧ k_ ≠ gb189 ∧ k_ ≠ gb190 ∧ k_ ≠ gb200 ∧ k_ ≠ gb220) v212 t211) := ⟨by (with_reducible repeat (first | apply Kd.V_alloc | apply Kd.V_drewN | apply Kd.V_drew)); exact Kd.V_mono (Kd.V_far (p := ⟨gb220, 2, none⟩) (Kd.V_far (p := ⟨gb220, 1, none⟩) (Kd.V_far (p := ⟨gb220, 0, none⟩) (Kd.V_mono HO213.out (fun k_ hk => (⟨hk, hk.2.2.2.2⟩ : _ ∧ k_ ≠ gb220))) (fun _ hk => hk.2) (.slice Ao49 t214.length co49)) (fun _ hk => hk.2) (.int .i64 t217)) (fun _ hk => hk.2) (.int .i64 t218)) (fun _ hk => ⟨hk.1.1, ⟨hk.1.2.1, ⟨hk.1.2.2.1, ⟨hk.1.2.2.2.1, hk.1.2.2.2.2⟩⟩⟩⟩)⟩
      have n3_ : Aside0 (Kd.V k84 84 (((w48.setCell ⟨gb220, 0, none⟩ (.slice Ao49 t214.length co49)).setCell ⟨gb220, 1, none⟩ (.int .i64 t217)).setCell ⟨gb220, 2, none⟩ (.int .i64 t218)) w.heap.size (fun k_ => k_ ≠ gb189 ∧ k_ ≠ gb190 ∧ k_ ≠ gb200 ∧ k_ ≠ gb220) (.slice Ao49 t214.length co49) t214) := ⟨by (with_reducible repeat (first | apply Kd.V_alloc | apply Kd.V_drewN | apply Kd.V_drew)); exact Kd.V_mono (Kd.V_far (p := ⟨gb220, 2, none⟩) (Kd.V_far (p := ⟨gb220, 1, none⟩) (Kd.V_far (p := ⟨gb220, 0, none⟩) (Kd.V_mono HO216.out (fun k_ hk => (⟨hk, hk.2.2.2⟩ : _ ∧ k_ ≠ gb220))) (fun _ hk => hk.2) (.slice Ao49 t214.length co49)) (fun _ hk => hk.2) (.int .i64 t217)) (fun _ hk => hk.2) (.int .i64 t218)) (fun _ hk => ⟨hk.1.1, ⟨hk.1.2.1, ⟨hk.1.2.2.1, hk.1.2.2.2⟩⟩⟩)⟩
      have n4_ : Aside0 ((((w48.setCell ⟨gb220, 0, none⟩ (.slice Ao49 t214.length co49)).setCell ⟨gb220, 1, none⟩ (.int .i64 t217)).setCell ⟨gb220, 2, none⟩ (.int .i64 t218)).heap[gb189]? = some (.cells #[.slice A0_0 l0_0.length c0_0, .int .i64 a0_1, .int .i64 a0_2] 26 (0, 0))) := ⟨by (with_reducible repeat (first | refine blk_drewN ?_ _ | refine blk_drew ?_ | refine blk_alloc ?_ _)); refine blk_far ?_ NB189_220.out _; (with_reducible repeat (first | refine blk_drewN ?_ _ | refine blk_drew ?_ | refine blk_alloc ?_ _)); refine blk_far ?_ NB189_220.out _; (with_reducible repeat (first | refine blk_drewN ?_ _ | refine blk_drew ?_ | refine blk_alloc ?_ _)); refine blk_far ?_ NB189_220.out _; (with_reducible repeat (first | refine blk_drewN ?_ _ | refine blk_drew ?_ | refine blk_alloc ?_ _)); exact BK189.out⟩
      have n5_ : Aside0 ((((w48.setCell ⟨gb220, 0, none⟩ (.slice Ao49 t214.length co49)).setCell ⟨gb220, 1, none⟩ (.int .i64 t217)).setCell ⟨gb220, 2, none⟩ (.int .i64 t218)).heap[gb190]? = some (.cells #[.int .i64 a2_0, .int .i64 a2_1, .int .i64 a2_2, .int .i64 a2_3, .bool a2_4, .slice A2_5 l2_5.length c2_5] 29 (0, 0))) := ⟨by (with_reducible repeat (first | refine blk_drewN ?_ _ | refine blk_drew ?_ | refine blk_alloc ?_ _)); refine blk_far ?_ NB190_220.out _; (with_reducible repeat (first | refine blk_drewN ?_ _ | refine blk_drew ?_ | refine blk_alloc ?_ _)); refine blk_far ?_ NB190_220.out _; (with_reducible repeat (first | refine blk_drewN ?_ _ | refine blk_drew ?_ | refine blk_alloc ?_ _)); refine blk_far ?_ NB190_220.out _; (with_reducible repeat (first | refine blk_drewN ?_ _ | refine blk_drew ?_ | refine blk_alloc ?_ _)); exact BK190.out⟩
      have n6_ : Aside0 ((((w48.setCell ⟨gb220, 0, none⟩ (.slice Ao49 t214.length co49)).setCell ⟨gb220, 1, none⟩ (.int .i64 t217)).setCell ⟨gb220, 2, none⟩ (.int .i64 t218)).heap[gb200]? = some (.cells #[.slice Ao36 t194.length co36, .int .i64 t197, .int .i64 t198] 26 (0, 0))) := ⟨by (with_reducible repeat (first | refine blk_drewN ?_ _ | refine blk_drew ?_ | refine blk_alloc ?_ _)); refine blk_far ?_ NB200_220.out _; (with_reducible repeat (first | refine blk_drewN ?_ _ | refine blk_drew ?_ | refine blk_alloc ?_ _)); refine blk_far ?_ NB200_220.out _; (with_reducible repeat (first | refine blk_drewN ?_ _ | refine blk_drew ?_ | refine blk_alloc ?_ _)); refine blk_far ?_ NB200_220.out _; (with_reducible repeat (first | refine blk_drewN ?_ _ | refine blk_drew ?_ | refine blk_alloc ?_ _)); exact BK200.out⟩
      have n7_ : Aside0 ((((w48.setCell ⟨gb220, 0, none⟩ (.slice Ao49 t214.length co49)).setCell ⟨gb220, 1, none⟩ (.int .i64 t217)).setCell ⟨gb220, 2, none⟩ (.int .i64 t218)).heap[gb220]? = some (.cells #[.slice Ao49 t214.length co49, .int .i64 t217, .int .i64 t218] 37 (0, 0))) := ⟨by (with_reducible repeat (first | refine blk_drewN ?_ _ | refine blk_drew ?_ | refine blk_alloc ?_ _)); refine blk_put (cs := #[.slice Ao49 t214.length co49, .int .i64 t217, .int .i64 0]) ?_ 2 _ rfl; (with_reducible repeat (first | refine blk_drewN ?_ _ | refine blk_drew ?_ | refine blk_alloc ?_ _)); refine blk_put (cs := #[.slice Ao49 t214.length co49, .int .i64 0, .int .i64 0]) ?_ 1 _ rfl; (with_reducible repeat (first | refine blk_drewN ?_ _ | refine blk_drew ?_ | refine blk_alloc ?_ _)); refine blk_put (cs := #[.slice none 0 0, .int .i64 0, .int .i64 0]) ?_ 0 _ rfl; (with_reducible repeat (first | refine blk_drewN ?_ _ | refine blk_drew ?_ | refine blk_alloc ?_ _)); exact BK220.out⟩
      have n8_ : Aside0 (Below w.heap.size w (((w48.setCell ⟨gb220, 0, none⟩ (.slice Ao49 t214.length co49)).setCell ⟨gb220, 1, none⟩ (.int .i64 t217)).setCell ⟨gb220, 2, none⟩ (.int .i64 t218))) := ⟨by repeat (first | (with_reducible first | exact HB.out | apply below_alloc | apply pw_below_drewN | apply below_drew1 | refine below_set ?_ GE189.out | refine below_set ?_ GE190.out | refine below_set ?_ GE200.out | refine below_set ?_ GE220.out) | exact HB.out)⟩
      (try clear HO196)
      (try clear HO203)
      (try clear HO213)
      (try clear HO216)
      (try clear BK189)
      (try clear BK190)
      (try clear BK200)
      (try clear BK220)
      (try clear HB)
      generalize (((w48.setCell ⟨gb220, 0, none⟩ (.slice Ao49 t214.length co49)).setCell ⟨gb220, 1, none⟩ (.int .i64 t217)).setCell ⟨gb220, 2, none⟩ (.int .i64 t218)) = w56 at n0_ n1_ n2_ n3_ n4_ n5_ n6_ n7_ n8_ ⊢
      have HO196 := n0_
      have HO203 := n1_
      have HO213 := n2_
      have HO216 := n3_
      have BK189 := n4_
      have BK190 := n5_
      have BK200 := n6_
      have BK220 := n7_
      have HB := n8_
      clear n0_ n1_ n2_ n3_ n4_ n5_ n6_ n7_ n8_
      have n0_ := Aside0.mk (Kd.V_drew HO196.out)
      have n1_ := Aside0.mk (Kd.N_drew HO203.out)
      have n2_ := Aside0.mk (Kd.V_drew HO213.out)
      have n3_ := Aside0.mk (Kd.V_drew HO216.out)
      have n4_ := Aside0.mk (blk_drew BK189.out)
      have n5_ := Aside0.mk (blk_drew BK190.out)
      have n6_ := Aside0.mk (blk_drew BK200.out)
      have n7_ := Aside0.mk (blk_drew BK220.out)
      have n8_ := Aside0.mk (below_drew1 HB.out)
      clear HO196
      clear HO203
      clear HO213
      clear HO216
      clear BK189
      clear BK190
      clear BK200
      clear BK220
      clear HB
      have HO196 := n0_
      have HO203 := n1_
      have HO213 := n2_
      have HO216 := n3_
      have BK189 := n4_
      have BK190 := n5_
      have BK200 := n6_
      have BK220 := n7_
      have HB := n8_
      clear n0_ n1_ n2_ n3_ n4_ n5_ n6_ n7_ n8_
      refine start_ (n := 10) (S := fun w' => w'.cell? ⟨gb200, 0, none⟩ = some (.slice Ao36 t194.length co36) ∧ w'.cell? ⟨gb200, 1, none⟩ = some (.int .i64 t197) ∧ w'.cell? ⟨gb200, 2, none⟩ = some (.int .i64 t198) ∧ w'.cell? ⟨gb220, 0, none⟩ = some (.slice Ao49 t214.length co49) ∧ w'.cell? ⟨gb220, 1, none⟩ = some (.int .i64 t217) ∧ w'.cell? ⟨gb220, 2, none⟩ = some (.int .i64 t218)) (ds := []) (bA 10 0) (by kernel_rfl) rfl rfl ⟨(blk_cell BK200.out 0).trans rfl, (blk_cell BK200.out 1).trans rfl, (blk_cell BK200.out 2).trans rfl, (blk_cell BK220.out 0).trans rfl, (blk_cell BK220.out 1).trans rfl, (blk_cell BK220.out 2).trans rfl⟩ (fun hHeld => ?_); refine with_tabW mortmainlaw06_StoreSets.tab5 mortmainlaw06_StoreSets.bits5 (fun HT_ HW_ => ?_)
      generalize w56.drew = w57 at HO196 HO203 HO213 HO216 BK189 BK190 BK200 BK220 HB hHeld ⊢
      refine take_ (i := 0) (N := some 45) (v := ?_) (a' := ?_) (bA 10 1) rfl rfl (tw_ HT_.out HW_.out) (fun _ _ _ h => h) (Or.inl ⟨by rfl, ?_⟩) hHeld ?_ ?_
      rotate_left
      ·rintro w' ⟨s0, s1, s2, s3, s4, s5⟩
       go_simp
       with_reducible rfl
      rotate_left
      ·simp only [Act.put, q1, q2, q3, i64_w, i32_w]
       rfl
      refine take_ (i := 2) (N := some 47) (v := ?_) (a' := ?_) (bA 10 5) rfl rfl (tw_ HT_.out HW_.out) (fun _ _ _ h => h) (Or.inl ⟨by rfl, ?_⟩) hHeld ?_ ?_
      rotate_left
      ·rintro w' ⟨s0, s1, s2, s3, s4, s5⟩
       go_simp
       with_reducible rfl
      rotate_left
      ·simp only [Act.put, q1, q2, q3, i64_w, i32_w]
       rfl
      refine one_ (i := 1) (N := some 46) (bA 10 7) rfl rfl (one_of HT_.out (by kernel_rfl)) (by decide) (fun K hK => ?_)
      refine goes_ Try.func19 (by kernel_rfl) rfl #[.agg #[.slice Ao36 t194.length co36, .int .i64 t197, .int .i64 t198]] (by rfl) rfl rfl mT ?_
      with_reducible refine (mortmainlaw06_its.calls kj3 (fun k_ => (some k_ ≠ (v202 : Value).ownBlock ∧ (k_ ≠ gb189 ∧ (k_ ≠ gb190 ∧ (k_ ≠ gb200 ∧ k_ ≠ gb220))))) _ _ t194 t197 t198 t221 t224 t225 _ ?side1 A53.out).mono ?_
      (case side1 => exact HO196.out)
      rintro e w58 ⟨v222, rfl, ho0, hb⟩
      refine ⟨_, rfl, ?_⟩
      have n0_ := Aside0.mk (Kd.V_elder' (by (with_reducible repeat (first | apply Kd.V_alloc | apply Kd.V_drewN | apply Kd.V_drew)); exact HO196.out) (by first | exact Kd.N_base ho0 | exact Kd.S_base ho0) hb)
      have n1_ := Aside0.mk (Kd.N_elder' (by (with_reducible repeat (first | apply Kd.N_alloc | apply Kd.N_drewN | apply Kd.N_drew)); exact HO203.out) (by first | exact Kd.N_base ho0 | exact Kd.S_base ho0) hb)
      have n2_ := Aside0.mk (Kd.V_elder' (by (with_reducible repeat (first | apply Kd.V_alloc | apply Kd.V_drewN | apply Kd.V_drew)); exact HO213.out) (by first | exact Kd.N_base ho0 | exact Kd.S_base ho0) hb)
      have n3_ := Aside0.mk (Kd.V_elder' (by (with_reducible repeat (first | apply Kd.V_alloc | apply Kd.V_drewN | apply Kd.V_drew)); exact HO216.out) (by first | exact Kd.N_base ho0 | exact Kd.S_base ho0) hb)
      have n4_ := Aside0.mk (Kd.N_lower (Kd.N_mono (ok' := fun k_ => some k_ ≠ (v202 : Value).ownBlock ∧ k_ ≠ gb189 ∧ k_ ≠ gb190 ∧ k_ ≠ gb200 ∧ k_ ≠ gb220) ho0 (fun k_ hk_ => ⟨Or.elim hk_ (fun hs_ => hs_.1) (fun hn_ => (Kd.fresh' (Kd.N_lt (by (with_reducible repeat (first | apply Kd.N_alloc | apply Kd.N_drewN | apply Kd.N_drew)); exact HO203.out)) k_ hn_)), Or.elim hk_ (fun hs_ => hs_.2.1) (fun hn_ => (Kd.freshB (g := gb189) (o := .cells #[.slice A0_0 l0_0.length c0_0, .int .i64 a0_1, .int .i64 a0_2] 26 (0, 0)) (kT BK189.out) k_ hn_)), Or.elim hk_ (fun hs_ => hs_.2.2.1) (fun hn_ => (Kd.freshB (g := gb190) (o := .cells #[.int .i64 a2_0, .int .i64 a2_1, .int .i64 a2_2, .int .i64 a2_3, .bool a2_4, .slice A2_5 l2_5.length c2_5] 29 (0, 0)) (kT BK190.out) k_ hn_)), Or.elim hk_ (fun hs_ => hs_.2.2.2.1) (fun hn_ => (Kd.freshB (g := gb200) (o := .cells #[.slice Ao36 t194.length co36, .int .i64 t197, .int .i64 t198] 26 (0, 0)) (kT BK200.out) k_ hn_)), Or.elim hk_ (fun hs_ => hs_.2.2.2.2) (fun hn_ => (Kd.freshB (g := gb220) (o := .cells #[.slice Ao49 t214.length co49, .int .i64 t217, .int .i64 t218] 37 (0, 0)) (kT BK220.out) k_ hn_))⟩)) (below_size (by repeat (first | (with_reducible first | exact HB.out | apply below_alloc | apply pw_below_drewN | apply below_drew1 | refine below_set ?_ GE189.out | refine below_set ?_ GE190.out | refine below_set ?_ GE200.out | refine below_set ?_ GE220.out) | exact HB.out))))
      have n5_ := Aside0.mk (blk_below (g := gb189) (o := .cells #[.slice A0_0 l0_0.length c0_0, .int .i64 a0_1, .int .i64 a0_2] 26 (0, 0)) (kT BK189.out) hb)
      have n6_ := Aside0.mk (blk_below (g := gb190) (o := .cells #[.int .i64 a2_0, .int .i64 a2_1, .int .i64 a2_2, .int .i64 a2_3, .bool a2_4, .slice A2_5 l2_5.length c2_5] 29 (0, 0)) (kT BK190.out) hb)
      have n7_ := Aside0.mk (blk_below (g := gb200) (o := .cells #[.slice Ao36 t194.length co36, .int .i64 t197, .int .i64 t198] 26 (0, 0)) (kT BK200.out) hb)
      have n8_ := Aside0.mk (blk_below (g := gb220) (o := .cells #[.slice Ao49 t214.length co49, .int .i64 t217, .int .i64 t218] 37 (0, 0)) (kT BK220.out) hb)
      have n9_ := Aside0.mk (below_step (by repeat (first | (with_reducible first | exact HB.out | apply below_alloc | apply pw_below_drewN | apply below_drew1 | refine below_set ?_ GE189.out | refine below_set ?_ GE190.out | refine below_set ?_ GE200.out | refine below_set ?_ GE220.out) | exact HB.out)) hb)
      clear HO196
      clear HO203
      clear HO213
      clear HO216
      clear BK189
      clear BK190
      clear BK200
      clear BK220
      clear HB
      have HO196 := n0_
      have HO203 := n1_
      have HO213 := n2_
      have HO216 := n3_
      have HO223 := n4_
      have BK189 := n5_
      have BK190 := n6_
      have BK200 := n7_
      have BK220 := n8_
      have HB := n9_
      clear n0_ n1_ n2_ n3_ n4_ n5_ n6_ n7_ n8_ n9_
      (try clear hb)
      (try clear hb2)
      (try clear hk)
      (try clear hi)
      (try clear ho0)
      obtain ⟨Ao59, co59, eo59⟩ := Kd.N_slice HO223.out
      (first | subst eo59 | (injection eo59 with f1_ f2_ f3_; have f4_ := f1_.symm; have f5_ := f3_.symm; clear f1_ f2_ f3_; subst f4_; subst f5_))
      refine hK.out _ _ ⟨(blk_cell BK200.out 0).trans rfl, (blk_cell BK200.out 1).trans rfl, (blk_cell BK200.out 2).trans rfl, (blk_cell BK220.out 0).trans rfl, (blk_cell BK220.out 1).trans rfl, (blk_cell BK220.out 2).trans rfl⟩ (fun hHeld => ?_)
      clear hK K
      refine norm_ (a' := ?_) ?_ ?_
      rotate_left
      ·show Act.put _ (some 46) _ = _
       simp only [Act.put, q1, q2, q3, i64_w, i32_w]
       rfl
      refine one_ (i := 3) (N := some 48) (bA 10 15) rfl rfl (one_of HT_.out (by kernel_rfl)) (by decide) (fun K hK => ?_)
      refine goes_ Try.func21 (by kernel_rfl) rfl #[.agg #[.slice Ao59 t221.length co59, .int .i64 t224, .int .i64 t225], .agg #[.slice Ao49 t214.length co49, .int .i64 t217, .int .i64 t218]] (by rfl) rfl rfl mT ?_
      with_reducible refine (mortmainref06_Same.calls kj3 _ _ t221 t224 t225 _ _ t214 t217 t218 true _ ?side1 ?side2 ?side3 ?side4 A54.out).mono ?_
      (case side1 => repeat (first | exact (Kd.N_reads' HO223.out).2.2 | (with_reducible refine Kd.C_alloc ?_ _) | (with_reducible refine Kd.C_drewN ?_ _) | (with_reducible refine Kd.C_drew ?_)))
      (case side2 => exact (Kd.N_reads' HO223.out).2.1)
      (case side3 => repeat (first | exact (Kd.V_reads' HO216.out).2.2 | (with_reducible refine Kd.C_alloc ?_ _) | (with_reducible refine Kd.C_drewN ?_ _) | (with_reducible refine Kd.C_drew ?_)))
      (case side4 => exact (Kd.V_reads' HO216.out).2.1)
      rintro e w60 ⟨rfl, hb⟩
      refine ⟨_, rfl, ?_⟩
      have n0_ := Aside0.mk (Kd.V_below (by (with_reducible repeat (first | apply Kd.V_alloc | apply Kd.V_drewN | apply Kd.V_drew)); exact HO196.out) hb)
      have n1_ := Aside0.mk (Kd.N_below (by (with_reducible repeat (first | apply Kd.N_alloc | apply Kd.N_drewN | apply Kd.N_drew)); exact HO203.out) hb)
      have n2_ := Aside0.mk (Kd.V_below (by (with_reducible repeat (first | apply Kd.V_alloc | apply Kd.V_drewN | apply Kd.V_drew)); exact HO213.out) hb)
      have n3_ := Aside0.mk (Kd.V_below (by (with_reducible repeat (first | apply Kd.V_alloc | apply Kd.V_drewN | apply Kd.V_drew)); exact HO216.out) hb)
      have n4_ := Aside0.mk (Kd.N_below (by (with_reducible repeat (first | apply Kd.N_alloc | apply Kd.N_drewN | apply Kd.N_drew)); exact HO223.out) hb)
      have n5_ := Aside0.mk (blk_below (g := gb189) (o := .cells #[.slice A0_0 l0_0.length c0_0, .int .i64 a0_1, .int .i64 a0_2] 26 (0, 0)) (kT BK189.out) hb)
      have n6_ := Aside0.mk (blk_below (g := gb190) (o := .cells #[.int .i64 a2_0, .int .i64 a2_1, .int .i64 a2_2, .int .i64 a2_3, .bool a2_4, .slice A2_5 l2_5.length c2_5] 29 (0, 0)) (kT BK190.out) hb)
      have n7_ := Aside0.mk (blk_below (g := gb200) (o := .cells #[.slice Ao36 t194.length co36, .int .i64 t197, .int .i64 t198] 26 (0, 0)) (kT BK200.out) hb)
      have n8_ := Aside0.mk (blk_below (g := gb220) (o := .cells #[.slice Ao49 t214.length co49, .int .i64 t217, .int .i64 t218] 37 (0, 0)) (kT BK220.out) hb)
      have n9_ := Aside0.mk (below_step (by repeat (first | (with_reducible first | exact HB.out | apply below_alloc | apply pw_below_drewN | apply below_drew1 | refine below_set ?_ GE189.out | refine below_set ?_ GE190.out | refine below_set ?_ GE200.out | refine below_set ?_ GE220.out) | exact HB.out)) hb)
      clear HO196
      clear HO203
      clear HO213
      clear HO216
      clear HO223
      clear BK189
      clear BK190
      clear BK200
      clear BK220
      clear HB
      have HO196 := n0_
      have HO203 := n1_
      have HO213 := n2_
      have HO216 := n3_
      have HO223 := n4_
      have BK189 := n5_
      have BK190 := n6_
      have BK200 := n7_
      have BK220 := n8_
      have HB := n9_
      clear n0_ n1_ n2_ n3_ n4_ n5_ n6_ n7_ n8_ n9_
      (try clear hb)
      (try clear hb2)
      (try clear hk)
      (try clear hi)
      refine hK.out _ _ ⟨(blk_cell BK200.out 0).trans rfl, (blk_cell BK200.out 1).trans rfl, (blk_cell BK200.out 2).trans rfl, (blk_cell BK220.out 0).trans rfl, (blk_cell BK220.out 1).trans rfl, (blk_cell BK220.out 2).trans rfl⟩ (fun hHeld => ?_)
      clear hK K
      refine norm_ (a' := ?_) ?_ ?_
      rotate_left
      ·show Act.put _ (some 48) _ = _
       simp only [Act.put, q1, q2, q3, i64_w, i32_w]
       rfl
      refine pure_ (i := 4) (N := some 49) (v := ?_) (a' := ?_) (bA 10 31) rfl rfl (an_ HT_.out) (fun _ _ _ h => h) (Or.inl ⟨by rfl, ?_⟩) ?_ ?_
      rotate_left
      ·intro w'
       go_simp
       with_reducible rfl
      rotate_left
      ·simp only [Act.put, q1, q2, q3, i64_w, i32_w]
       rfl
      refine pure_ (i := 5) (N := some 50) (v := ?_) (a' := ?_) (bA 10 63) rfl rfl (an_ HT_.out) (fun _ _ _ h => h) (Or.inl ⟨by rfl, ?_⟩) ?_ ?_
      rotate_left
      ·intro w'
       go_simp
       with_reducible rfl
      rotate_left
      ·simp only [Act.put, q1, q2, q3, i64_w, i32_w]
       rfl
      refine pure_ (i := 6) (N := some 51) (v := ?_) (a' := ?_) (bA 10 127) rfl rfl (an_ HT_.out) (fun _ _ _ h => h) (Or.inl ⟨by rfl, ?_⟩) ?_ ?_
      rotate_left
      ·intro w'
       go_simp
       with_reducible rfl
      rotate_left
      ·simp only [Act.put, q1, q2, q3, i64_w, i32_w]
       rfl
      refine pure_ (i := 7) (N := some 52) (v := ?_) (a' := ?_) (bA 10 255) rfl rfl (an_ HT_.out) (fun _ _ _ h => h) (Or.inl ⟨by rfl, ?_⟩) ?_ ?_
      rotate_left
      ·intro w'
       go_simp
       with_reducible rfl
      rotate_left
      ·simp only [Act.put, q1, q2, q3, i64_w, i32_w]
       rfl
      refine pure_ (i := 8) (N := some 53) (v := ?_) (a' := ?_) (bA 10 511) rfl rfl (an_ HT_.out) (fun _ _ _ h => h) (Or.inl ⟨by rfl, ?_⟩) ?_ ?_
      rotate_left
      ·intro w'
       go_simp
       with_reducible rfl
      rotate_left
      ·simp only [Act.put, q1, q2, q3, i64_w, i32_w]
       rfl
      refine pure_ (i := 9) (N := some 54) (v := ?_) (a' := ?_) (bA 10 1023) rfl rfl (an_ HT_.out) (fun _ _ _ h => h) (Or.inl ⟨by rfl, ?_⟩) ?_ ?_
      rotate_left
      ·intro w'
       go_simp
       with_reducible rfl
      rotate_left
      ·simp only [Act.put, q1, q2, q3, i64_w, i32_w]
       rfl
      refine done_ (done_of HT_.out (by kernel_rfl)) ?_
      try go_wp2
      go_meet
      case rel => exact ⟨_, ((t199 != t219)), (by first | rfl | (simp; done) | (simp [*]; done)), H', ⟨by have := HJ3.out; first | omega | exact Nat.le_refl _⟩, ⟨by (with_reducible repeat (first | apply Kd.V_alloc | apply Kd.V_drewN | apply Kd.V_drew)); exact Kd.V_mono HO196.out (fun _ hk => ⟨hk.1.2.1, ⟨hk.1.2.2.1, ⟨hk.1.2.2.2.1, hk.1.2.2.2.2⟩⟩⟩)⟩, ⟨by (with_reducible repeat (first | apply Kd.V_alloc | apply Kd.V_drewN | apply Kd.V_drew)); exact Kd.V_mono HO216.out (fun _ hk => ⟨hk.1.1, ⟨hk.1.2.1, ⟨hk.1.2.2.1, hk.1.2.2.2⟩⟩⟩)⟩, ⟨by (with_reducible repeat (first | refine blk_drewN ?_ _ | refine blk_drew ?_ | refine blk_alloc ?_ _)); exact BK189.out⟩, ⟨by (with_reducible repeat (first | refine blk_drewN ?_ _ | refine blk_drew ?_ | refine blk_alloc ?_ _)); exact BK190.out⟩, ⟨by (with_reducible repeat (first | refine blk_drewN ?_ _ | refine blk_drew ?_ | refine blk_alloc ?_ _)); exact BK200.out⟩, ⟨by (with_reducible repeat (first | refine blk_drewN ?_ _ | refine blk_drew ?_ | refine blk_alloc ?_ _)); exact BK220.out⟩, ⟨by repeat (first | (with_reducible first | exact HB.out | apply below_alloc | apply pw_below_drewN | apply below_drew1 | refine below_set ?_ GE189.out | refine below_set ?_ GE190.out | refine below_set ?_ GE200.out | refine below_set ?_ GE220.out) | exact HB.out)⟩⟩
     ·replace c55 := Bool.eq_false_iff.mpr c55
      subst c55
      have H1 : (none) = some r := by rw [if_neg (show ¬ (false = true) by decide)] at H; exact H
      clear H
      have H := H1
      clear H1
      exact absurd H (by simp)
    case rest =>
     clear HC30
     try clear c1
     try clear c2
     try clear p2
     try clear c5
     try clear c18
     try clear c19
     try clear c20
     try clear c21
     try clear c55
     obtain ⟨kq, x54_29, rfl, HA, HJ29, HO_201000, HO_221000, BK189, BK190, BK200, BK220, HB⟩ := hcut
     cases kq with
     | zero => exact absurd HA.out (by simp [mortmainlaw06_StoreSets.j1])
     | succ kj29 =>
      have H := HA.out
      clear HA
      simp only [mortmainlaw06_StoreSets.j1] at H
      by_cases c61 : x54_29 = true
      ·subst c61
       have H1 : (none) = some r := by rw [if_pos rfl] at H; exact H
       clear H
       have H := H1
       clear H1
       exact absurd H (by simp)
      ·replace c61 := Bool.eq_false_iff.mpr c61
       subst c61
       have H1 : ((mortmainref06_Right.f kj29 t214 t217 t218).bind fun t227 => (if t227 = true then ((store_Get.f t194 t197 t198 a1).bind fun bt228 => ((store_Get.f l0_0 a0_1 a0_2 a1).bind fun bt238 => (if bt228.2.2.2.2.2.2 = bt238.2.2.2.2.2.2 then (if bt228.2.2.2.2.2.2 = 0 then ((mortmainlaw06_obj.f bt228.1 bt228.2.1 bt228.2.2.1 bt228.2.2.2.1 bt228.2.2.2.2.1 bt228.2.2.2.2.2.1).bind fun bt248 => ((mortmainlaw06_obj.f a2_0 a2_1 a2_2 a2_3 a2_4 l2_5).bind fun bt256 => ((mortmainref06_Alike.f kj29 bt248.1 bt248.2.1 bt248.2.2.1 bt248.2.2.2.1 bt248.2.2.2.2.1 bt248.2.2.2.2.2 bt256.1 bt256.2.1 bt256.2.2.1 bt256.2.2.2.1 bt256.2.2.2.2.1 bt256.2.2.2.2.2).bind fun t264 => (some t264)))) else (some true)) else (none)))) else (some true))) = some r := by rw [if_neg (show ¬ (false = true) by decide)] at H; exact H
       clear H
       have H := H1
       clear H1
       replace H := Option.bind_eq_some_iff.mp H
       obtain ⟨t227, A620, H⟩ := H
       replace H : (if t227 = true then ((store_Get.f t194 t197 t198 a1).bind fun bt228 => ((store_Get.f l0_0 a0_1 a0_2 a1).bind fun bt238 => (if bt228.2.2.2.2.2.2 = bt238.2.2.2.2.2.2 then (if bt228.2.2.2.2.2.2 = 0 then ((mortmainlaw06_obj.f bt228.1 bt228.2.1 bt228.2.2.1 bt228.2.2.2.1 bt228.2.2.2.2.1 bt228.2.2.2.2.2.1).bind fun bt248 => ((mortmainlaw06_obj.f a2_0 a2_1 a2_2 a2_3 a2_4 l2_5).bind fun bt256 => ((mortmainref06_Alike.f kj29 bt248.1 bt248.2.1 bt248.2.2.1 bt248.2.2.2.1 bt248.2.2.2.2.1 bt248.2.2.2.2.2 bt256.1 bt256.2.1 bt256.2.2.1 bt256.2.2.2.1 bt256.2.2.2.2.1 bt256.2.2.2.2.2).bind fun t264 => (some t264)))) else (some true)) else (none)))) else (some true)) = some r := H
       have A62 := Aside0.mk A620
       clear A620
       by_cases c63 : t227 = true
       ·subst c63
        have H1 : ((store_Get.f t194 t197 t198 a1).bind fun bt228 => ((store_Get.f l0_0 a0_1 a0_2 a1).bind fun bt238 => (if bt228.2.2.2.2.2.2 = bt238.2.2.2.2.2.2 then (if bt228.2.2.2.2.2.2 = 0 then ((mortmainlaw06_obj.f bt228.1 bt228.2.1 bt228.2.2.1 bt228.2.2.2.1 bt228.2.2.2.2.1 bt228.2.2.2.2.2.1).bind fun bt248 => ((mortmainlaw06_obj.f a2_0 a2_1 a2_2 a2_3 a2_4 l2_5).bind fun bt256 => ((mortmainref06_Alike.f kj29 bt248.1 bt248.2.1 bt248.2.2.1 bt248.2.2.2.1 bt248.2.2.2.2.1 bt248.2.2.2.2.2 bt256.1 bt256.2.1 bt256.2.2.1 bt256.2.2.2.1 bt256.2.2.2.2.1 bt256.2.2.2.2.2).bind fun t264 => (some t264)))) else (some true)) else (none)))) = some r := by rw [if_pos rfl] at H; exact H
        clear H
        have H := H1
        clear H1
        replace H := Option.bind_eq_some_iff.mp H
        obtain ⟨⟨t228, t229, t230, t231, t232, t233, t236⟩, A640, H⟩ := H
        replace H : ((store_Get.f l0_0 a0_1 a0_2 a1).bind fun bt238 => (if t236 = bt238.2.2.2.2.2.2 then (if t236 = 0 then ((mortmainlaw06_obj.f t228 t229 t230 t231 t232 t233).bind fun bt248 => ((mortmainlaw06_obj.f a2_0 a2_1 a2_2 a2_3 a2_4 l2_5).bind fun bt256 => ((mortmainref06_Alike.f kj29 bt248.1 bt248.2.1 bt248.2.2.1 bt248.2.2.2.1 bt248.2.2.2.2.1 bt248.2.2.2.2.2 bt256.1 bt256.2.1 bt256.2.2.1 bt256.2.2.2.1 bt256.2.2.2.2.1 bt256.2.2.2.2.2).bind fun t264 => (some t264)))) else (some true)) else (none))) = some r := H
        have A64 := Aside0.mk A640
        clear A640
        replace H := Option.bind_eq_some_iff.mp H
        obtain ⟨⟨t238, t239, t240, t241, t242, t243, t246⟩, A650, H⟩ := H
        replace H : (if t236 = t246 then (if t236 = 0 then ((mortmainlaw06_obj.f t228 t229 t230 t231 t232 t233).bind fun bt248 => ((mortmainlaw06_obj.f a2_0 a2_1 a2_2 a2_3 a2_4 l2_5).bind fun bt256 => ((mortmainref06_Alike.f kj29 bt248.1 bt248.2.1 bt248.2.2.1 bt248.2.2.2.1 bt248.2.2.2.2.1 bt248.2.2.2.2.2 bt256.1 bt256.2.1 bt256.2.2.1 bt256.2.2.2.1 bt256.2.2.2.2.1 bt256.2.2.2.2.2).bind fun t264 => (some t264)))) else (some true)) else (none)) = some r := H
        have A65 := Aside0.mk A650
        clear A650
        by_cases c66 : t236 = t246
        ·rw [if_pos c66] at H
         have c66b0 : (t236 == t246) = true := beq_iff_eq.mpr c66
         have c66b1 : (t236 != t246) = false := bne_eq_false_iff_eq.mpr c66
         clear c66
         by_cases c67 : t236 = 0
         ·rw [if_pos c67] at H
          have c67b0 : (t236 == 0) = true := beq_iff_eq.mpr c67
          have c67b1 : (t236 != 0) = false := bne_eq_false_iff_eq.mpr c67
          clear c67
          replace H := Option.bind_eq_some_iff.mp H
          obtain ⟨⟨t248, t249, t250, t251, t252, t253⟩, A680, H⟩ := H
          replace H : ((mortmainlaw06_obj.f a2_0 a2_1 a2_2 a2_3 a2_4 l2_5).bind fun bt256 => ((mortmainref06_Alike.f kj29 t248 t249 t250 t251 t252 t253 bt256.1 bt256.2.1 bt256.2.2.1 bt256.2.2.2.1 bt256.2.2.2.2.1 bt256.2.2.2.2.2).bind fun t264 => (some t264))) = some r := H
          have A68 := Aside0.mk A680
          clear A680
          replace H := Option.bind_eq_some_iff.mp H
          obtain ⟨⟨t256, t257, t258, t259, t260, t261⟩, A690, H⟩ := H
          replace H : ((mortmainref06_Alike.f kj29 t248 t249 t250 t251 t252 t253 t256 t257 t258 t259 t260 t261).bind fun t264 => (some t264)) = some r := H
          have A69 := Aside0.mk A690
          clear A690
          replace H := Option.bind_eq_some_iff.mp H
          obtain ⟨t264, A700, H⟩ := H
          replace H : (some t264) = some r := H
          have A70 := Aside0.mk A700
          clear A700
          obtain rfl := Option.some.inj H
          have hnb71 := NB220_189.out
          have hnc71 := NB189_220.out
          have hnb72 := NB220_190.out
          have hnc72 := NB190_220.out
          have hnb73 := NB220_200.out
          have hnc73 := NB200_220.out
          have hcz74_0 : wc.cell? ⟨gb220, 0, none⟩ = some (.slice Ao49 t214.length co49) := (blk_cell BK220.out 0).trans rfl
          have hcz74_1 : wc.cell? ⟨gb220, 1, none⟩ = some (.int .i64 t217) := (blk_cell BK220.out 1).trans rfl
          have hcz74_2 : wc.cell? ⟨gb220, 2, none⟩ = some (.int .i64 t218) := (blk_cell BK220.out 2).trans rfl
          have hfz74_0 := blk_frozen BK220.out 0
          have hfz74_1 := blk_frozen BK220.out 1
          have hfz74_2 := blk_frozen BK220.out 2
          try go_wp2_with (first | ((with_reducible refine gate_callee (f := 22) rfl ?_); refine goesL_ (some 56) rfl rfl Try.func22 (by kernel_rfl) rfl #[.agg #[.slice Ao49 t214.length co49, .int .i64 t217, .int .i64 t218]] rfl mT ?_; (with_reducible refine (mortmainref06_Right.calls kj29 _ _ t214 t217 t218 true _ ?side1 ?side2 A62.out).mono ?_); (case side1 => repeat (first | exact (Kd.V_reads' HO_221000.out).2.2 | (with_reducible refine Kd.C_alloc ?_ _) | (with_reducible refine Kd.C_drewN ?_ _) | (with_reducible refine Kd.C_drew ?_))); (case side2 => exact (Kd.V_reads' HO_221000.out).2.1); rintro e w75 ⟨rfl, hb⟩; refine ⟨_, rfl, ?_⟩; have n0_ := Aside0.mk (Kd.V_below (by (with_reducible repeat (first | apply Kd.V_alloc | apply Kd.V_drewN | apply Kd.V_drew)); exact HO_201000.out) hb); have n1_ := Aside0.mk (Kd.V_below (by (with_reducible repeat (first | apply Kd.V_alloc | apply Kd.V_drewN | apply Kd.V_drew)); exact HO_221000.out) hb); have n2_ := Aside0.mk (blk_below (g := gb189) (o := .cells #[.slice A0_0 l0_0.length c0_0, .int .i64 a0_1, .int .i64 a0_2] 26 (0, 0)) (kT BK189.out) hb); have n3_ := Aside0.mk (blk_below (g := gb190) (o := .cells #[.int .i64 a2_0, .int .i64 a2_1, .int .i64 a2_2, .int .i64 a2_3, .bool a2_4, .slice A2_5 l2_5.length c2_5] 29 (0, 0)) (kT BK190.out) hb); have n4_ := Aside0.mk (blk_below (g := gb200) (o := .cells #[.slice Ao36 t194.length co36, .int .i64 t197, .int .i64 t198] 26 (0, 0)) (kT BK200.out) hb); have n5_ := Aside0.mk (blk_below (g := gb220) (o := .cells #[.slice Ao49 t214.length co49, .int .i64 t217, .int .i64 t218] 37 (0, 0)) (kT BK220.out) hb); have n6_ := Aside0.mk (below_step (by repeat (first | (with_reducible first | exact HB.out | apply below_alloc | apply pw_below_drewN | apply below_drew1 | refine below_set ?_ GE189.out | refine below_set ?_ GE190.out | refine below_set ?_ GE200.out | refine below_set ?_ GE220.out) | exact HB.out)) hb); clear HO_201000; clear HO_221000; clear BK189; clear BK190; clear BK200; clear BK220; clear HB; have HO_201000 := n0_; have HO_221000 := n1_; have BK189 := n2_; have BK190 := n3_; have BK200 := n4_; have BK220 := n5_; have HB := n6_; clear n0_ n1_ n2_ n3_ n4_ n5_ n6_; (try clear hb); (try clear hb2); (try clear hk); (try clear hi); have hnb76 := NB200_189.out; have hnc76 := NB189_200.out; have hnb77 := NB200_190.out; have hnc77 := NB190_200.out; have hcz78_0 : w75.cell? ⟨gb200, 0, none⟩ = some (.slice Ao36 t194.length co36) := (blk_cell BK200.out 0).trans rfl; have hcz78_1 : w75.cell? ⟨gb200, 1, none⟩ = some (.int .i64 t197) := (blk_cell BK200.out 1).trans rfl; have hcz78_2 : w75.cell? ⟨gb200, 2, none⟩ = some (.int .i64 t198) := (blk_cell BK200.out 2).trans rfl; have hfz78_0 := blk_frozen BK200.out 0; have hfz78_1 := blk_frozen BK200.out 1; have hfz78_2 := blk_frozen BK200.out 2) | ((with_reducible refine gate_callee (f := 23) rfl ?_); refine goesL_ (some 61) rfl rfl Try.func23 (by kernel_rfl) rfl #[.agg #[.slice Ao36 t194.length co36, .int .i64 t197, .int .i64 t198], .int .i64 a1] rfl mT ?_; (with_reducible refine (store_Get.calls (fun k_ => (k_ ≠ gb189 ∧ (k_ ≠ gb190 ∧ (k_ ≠ gb200 ∧ k_ ≠ gb220)))) _ _ t194 t197 t198 a1 t228 t229 t230 t231 t232 t233 t236 _ ?side1 A64.out).mono ?_); (case side1 => exact HO_201000.out); rintro e w79 ⟨v234, rfl, ho0, hb⟩; refine ⟨_, rfl, ?_⟩; have n0_ := Aside0.mk (Kd.V_below (by (with_reducible repeat (first | apply Kd.V_alloc | apply Kd.V_drewN | apply Kd.V_drew)); exact HO_201000.out) hb); have n1_ := Aside0.mk (Kd.V_below (by (with_reducible repeat (first | apply Kd.V_alloc | apply Kd.V_drewN | apply Kd.V_drew)); exact HO_221000.out) hb); have n2_ := Aside0.mk (Kd.V_lower (Kd.V_mono (ok' := fun k_ => k_ ≠ gb189 ∧ k_ ≠ gb190 ∧ k_ ≠ gb200 ∧ k_ ≠ gb220) ho0 (fun k_ hk_ => ⟨Or.elim hk_ (fun hs_ => hs_.1) (fun hn_ => (Kd.freshB (g := gb189) (o := .cells #[.slice A0_0 l0_0.length c0_0, .int .i64 a0_1, .int .i64 a0_2] 26 (0, 0)) (kT BK189.out) k_ hn_)), Or.elim hk_ (fun hs_ => hs_.2.1) (fun hn_ => (Kd.freshB (g := gb190) (o := .cells #[.int .i64 a2_0, .int .i64 a2_1, .int .i64 a2_2, .int .i64 a2_3, .bool a2_4, .slice A2_5 l2_5.length c2_5] 29 (0, 0)) (kT BK190.out) k_ hn_)), Or.elim hk_ (fun hs_ => hs_.2.2.1) (fun hn_ => (Kd.freshB (g := gb200) (o := .cells #[.slice Ao36 t194.length co36, .int .i64 t197, .int .i64 t198] 26 (0, 0)) (kT BK200.out) k_ hn_)), Or.elim hk_ (fun hs_ => hs_.2.2.2) (fun hn_ => (Kd.freshB (g := gb220) (o := .cells #[.slice Ao49 t214.length co49, .int .i64 t217, .int .i64 t218] 37 (0, 0)) (kT BK220.out) k_ hn_))⟩)) (below_size (by repeat (first | (with_reducible first | exact HB.out | apply below_alloc | apply pw_below_drewN | apply below_drew1 | refine below_set ?_ GE189.out | refine below_set ?_ GE190.out | refine below_set ?_ GE200.out | refine below_set ?_ GE220.out) | exact HB.out)))); have n3_ := Aside0.mk (blk_below (g := gb189) (o := .cells #[.slice A0_0 l0_0.length c0_0, .int .i64 a0_1, .int .i64 a0_2] 26 (0, 0)) (kT BK189.out) hb); have n4_ := Aside0.mk (blk_below (g := gb190) (o := .cells #[.int .i64 a2_0, .int .i64 a2_1, .int .i64 a2_2, .int .i64 a2_3, .bool a2_4, .slice A2_5 l2_5.length c2_5] 29 (0, 0)) (kT BK190.out) hb); have n5_ := Aside0.mk (blk_below (g := gb200) (o := .cells #[.slice Ao36 t194.length co36, .int .i64 t197, .int .i64 t198] 26 (0, 0)) (kT BK200.out) hb); have n6_ := Aside0.mk (blk_below (g := gb220) (o := .cells #[.slice Ao49 t214.length co49, .int .i64 t217, .int .i64 t218] 37 (0, 0)) (kT BK220.out) hb); have n7_ := Aside0.mk (below_step (by repeat (first | (with_reducible first | exact HB.out | apply below_alloc | apply pw_below_drewN | apply below_drew1 | refine below_set ?_ GE189.out | refine below_set ?_ GE190.out | refine below_set ?_ GE200.out | refine below_set ?_ GE220.out) | exact HB.out)) hb); clear HO_201000; clear HO_221000; clear BK189; clear BK190; clear BK200; clear BK220; clear HB; have HO_201000 := n0_; have HO_221000 := n1_; have HO235 := n2_; have BK189 := n3_; have BK190 := n4_; have BK200 := n5_; have BK220 := n6_; have HB := n7_; clear n0_ n1_ n2_ n3_ n4_ n5_ n6_ n7_; (try clear hb); (try clear hb2); (try clear hk); (try clear hi); (try clear ho0)) | ((with_reducible refine gate_dst (N := 11) rfl ?_); (try (refine gate_guard (by rfl) ?_; dsimp only)); refine box_event ?hg (N := 11) ?hd (cs := #[.int .i64 0, .int .i64 0, .int .i64 0, .int .i64 0, .bool false, .slice none 0 0]) (t := 29) ?hr ?_; (case hd => rfl); (case hg => rfl); (case hr => first | (go_simp; done) | (go_simp; rfl)); intro gb237 hg w80 hbox hb; have n0_ := Aside0.mk (Kd.V_below (Kd.V_elderB (by (with_reducible repeat (first | apply Kd.V_alloc | apply Kd.V_drewN | apply Kd.V_drew)); exact HO_201000.out) gb237 (Nat.le_of_eq hg.symm)) hb); have n1_ := Aside0.mk (Kd.V_below (Kd.V_elderB (by (with_reducible repeat (first | apply Kd.V_alloc | apply Kd.V_drewN | apply Kd.V_drew)); exact HO_221000.out) gb237 (Nat.le_of_eq hg.symm)) hb); have n2_ := Aside0.mk (Kd.V_below (Kd.V_elderB (by (with_reducible repeat (first | apply Kd.V_alloc | apply Kd.V_drewN | apply Kd.V_drew)); exact HO235.out) gb237 (Nat.le_of_eq hg.symm)) hb); have n3_ := Aside0.mk (blk_below (g := gb189) (o := .cells #[.slice A0_0 l0_0.length c0_0, .int .i64 a0_1, .int .i64 a0_2] 26 (0, 0)) (kT BK189.out) hb); have n4_ := Aside0.mk (blk_below (g := gb190) (o := .cells #[.int .i64 a2_0, .int .i64 a2_1, .int .i64 a2_2, .int .i64 a2_3, .bool a2_4, .slice A2_5 l2_5.length c2_5] 29 (0, 0)) (kT BK190.out) hb); have n5_ := Aside0.mk (blk_below (g := gb200) (o := .cells #[.slice Ao36 t194.length co36, .int .i64 t197, .int .i64 t198] 26 (0, 0)) (kT BK200.out) hb); have n6_ := Aside0.mk (blk_below (g := gb220) (o := .cells #[.slice Ao49 t214.length co49, .int .i64 t217, .int .i64 t218] 37 (0, 0)) (kT BK220.out) hb); have n7_ := Aside0.mk (below_step (by repeat (first | (with_reducible first | exact HB.out | apply below_alloc | apply pw_below_drewN | apply below_drew1 | refine below_set ?_ GE189.out | refine below_set ?_ GE190.out | refine below_set ?_ GE200.out | refine below_set ?_ GE220.out) | exact HB.out)) hb); have n8_ := Aside0.mk (hbox); have n9_ := Aside0.mk ((by rw [hg]; exact (below_size (by repeat (first | (with_reducible first | exact HB.out | apply below_alloc | apply pw_below_drewN | apply below_drew1 | refine below_set ?_ GE189.out | refine below_set ?_ GE190.out | refine below_set ?_ GE200.out | refine below_set ?_ GE220.out) | exact HB.out))) : w.heap.size ≤ gb237)); have n10_ := Aside0.mk ((by rw [hg]; exact (below_size (by repeat (first | (with_reducible first | exact HB.out | apply below_alloc | apply pw_below_drewN | apply below_drew1 | refine below_set ?_ GE189.out | refine below_set ?_ GE190.out | refine below_set ?_ GE200.out | refine below_set ?_ GE220.out) | exact HB.out))) : w.heap.size ≤ gb237)); have n11_ := Aside0.mk ((by rw [hg]; exact Nat.ne_of_lt (blk_lt (g := gb189) (o := .cells #[.slice A0_0 l0_0.length c0_0, .int .i64 a0_1, .int .i64 a0_2] 26 (0, 0)) (kT BK189.out)) : gb189 ≠ gb237)); have n12_ := Aside0.mk ((by rw [hg]; exact Nat.ne_of_gt (blk_lt (g := gb189) (o := .cells #[.slice A0_0 l0_0.length c0_0, .int .i64 a0_1, .int .i64 a0_2] 26 (0, 0)) (kT BK189.out)) : gb237 ≠ gb189)); have n13_ := Aside0.mk ((by rw [hg]; exact Nat.ne_of_lt (blk_lt (g := gb190) (o := .cells #[.int .i64 a2_0, .int .i64 a2_1, .int .i64 a2_2, .int .i64 a2_3, .bool a2_4, .slice A2_5 l2_5.length c2_5] 29 (0, 0)) (kT BK190.out)) : gb190 ≠ gb237)); have n14_ := Aside0.mk ((by rw [hg]; exact Nat.ne_of_gt (blk_lt (g := gb190) (o := .cells #[.int .i64 a2_0, .int .i64 a2_1, .int .i64 a2_2, .int .i64 a2_3, .bool a2_4, .slice A2_5 l2_5.length c2_5] 29 (0, 0)) (kT BK190.out)) : gb237 ≠ gb190)); have n15_ := Aside0.mk ((by rw [hg]; exact Nat.ne_of_lt (blk_lt (g := gb200) (o := .cells #[.slice Ao36 t194.length co36, .int .i64 t197, .int .i64 t198] 26 (0, 0)) (kT BK200.out)) : gb200 ≠ gb237)); have n16_ := Aside0.mk ((by rw [hg]; exact Nat.ne_of_gt (blk_lt (g := gb200) (o := .cells #[.slice Ao36 t194.length co36, .int .i64 t197, .int .i64 t198] 26 (0, 0)) (kT BK200.out)) : gb237 ≠ gb200)); have n17_ := Aside0.mk ((by rw [hg]; exact Nat.ne_of_lt (blk_lt (g := gb220) (o := .cells #[.slice Ao49 t214.length co49, .int .i64 t217, .int .i64 t218] 37 (0, 0)) (kT BK220.out)) : gb220 ≠ gb237)); have n18_ := Aside0.mk ((by rw [hg]; exact Nat.ne_of_gt (blk_lt (g := gb220) (o := .cells #[.slice Ao49 t214.length co49, .int .i64 t217, .int .i64 t218] 37 (0, 0)) (kT BK220.out)) : gb237 ≠ gb220)); clear HO_201000; clear HO_221000; clear HO235; clear BK189; clear BK190; clear BK200; clear BK220; clear HB; have HO_201000 := n0_; have HO_221000 := n1_; have HO235 := n2_; have BK189 := n3_; have BK190 := n4_; have BK200 := n5_; have BK220 := n6_; have HB := n7_; have BK237 := n8_; have GW237 := n9_; have GE237 := n10_; have NB189_237 := n11_; have NB237_189 := n12_; have NB190_237 := n13_; have NB237_190 := n14_; have NB200_237 := n15_; have NB237_200 := n16_; have NB220_237 := n17_; have NB237_220 := n18_; clear n0_ n1_ n2_ n3_ n4_ n5_ n6_ n7_ n8_ n9_ n10_ n11_ n12_ n13_ n14_ n15_ n16_ n17_ n18_; clear hb hbox hg; have hnb81 := NB237_189.out; have hnc81 := NB189_237.out; have hnb82 := NB237_190.out; have hnc82 := NB190_237.out; have hnb83 := NB237_200.out; have hnc83 := NB200_237.out; have hnb84 := NB237_220.out; have hnc84 := NB220_237.out; have hcz85_0 : w80.cell? ⟨gb237, 0, none⟩ = some (.int .i64 0) := (blk_cell BK237.out 0).trans rfl; have hcz85_1 : w80.cell? ⟨gb237, 1, none⟩ = some (.int .i64 0) := (blk_cell BK237.out 1).trans rfl; have hcz85_2 : w80.cell? ⟨gb237, 2, none⟩ = some (.int .i64 0) := (blk_cell BK237.out 2).trans rfl; have hcz85_3 : w80.cell? ⟨gb237, 3, none⟩ = some (.int .i64 0) := (blk_cell BK237.out 3).trans rfl; have hcz85_4 : w80.cell? ⟨gb237, 4, none⟩ = some (.bool false) := (blk_cell BK237.out 4).trans rfl; have hcz85_5 : w80.cell? ⟨gb237, 5, none⟩ = some (.slice none 0 0) := (blk_cell BK237.out 5).trans rfl; have hfz85_0 := blk_frozen BK237.out 0; have hfz85_1 := blk_frozen BK237.out 1; have hfz85_2 := blk_frozen BK237.out 2; have hfz85_3 := blk_frozen BK237.out 3; have hfz85_4 := blk_frozen BK237.out 4; have hfz85_5 := blk_frozen BK237.out 5; obtain ⟨Ao86, co86, eo86⟩ := Kd.V_slice HO235.out; subst eo86) | ((with_reducible refine gate_store (t := 29) (p := 11) rfl ?_); refine store_event (t := 29) (p := 11) (v := ?vo_w87) (w1 := ((((((w80.setCell ⟨gb237, 0, none⟩ (.int .i64 t228)).setCell ⟨gb237, 1, none⟩ (.int .i64 t229)).setCell ⟨gb237, 2, none⟩ (.int .i64 t230)).setCell ⟨gb237, 3, none⟩ (.int .i64 t231)).setCell ⟨gb237, 4, none⟩ (.bool t232)).setCell ⟨gb237, 5, none⟩ (.slice Ao86 t233.length co86))) ?hg ?ho ?hn ?hr ?_; (case ho => rfl); (case hg => rfl); (case hn => rfl); (case hr => first | (go_simp; done) | (go_simp; rfl)); intro w87 hw; have n0_ : Aside0 (Kd.V k82 82 w87 w.heap.size (fun k_ => k_ ≠ gb189 ∧ k_ ≠ gb190 ∧ k_ ≠ gb200 ∧ k_ ≠ gb220 ∧ k_ ≠ gb237) (.slice Ao36 t194.length co36) t194) := ⟨(by rw [hw]; exact (by (with_reducible repeat (first | apply Kd.V_alloc | apply Kd.V_drewN | apply Kd.V_drew)); exact Kd.V_mono (Kd.V_far (p := ⟨gb237, 5, none⟩) (Kd.V_far (p := ⟨gb237, 4, none⟩) (Kd.V_far (p := ⟨gb237, 3, none⟩) (Kd.V_far (p := ⟨gb237, 2, none⟩) (Kd.V_far (p := ⟨gb237, 1, none⟩) (Kd.V_far (p := ⟨gb237, 0, none⟩) (Kd.V_mono HO_201000.out (fun k_ hk => (⟨hk, hk.2⟩ : _ ∧ k_ ≠ gb237))) (fun _ hk => hk.2) (.int .i64 t228)) (fun _ hk => hk.2) (.int .i64 t229)) (fun _ hk => hk.2) (.int .i64 t230)) (fun _ hk => hk.2) (.int .i64 t231)) (fun _ hk => hk.2) (.bool t232)) (fun _ hk => hk.2) (.slice Ao86 t233.length co86)) (fun _ hk => ⟨hk.1.1.1, ⟨hk.1.1.2.1, ⟨hk.1.1.2.2.1, ⟨hk.1.1.2.2.2, hk.1.2⟩⟩⟩⟩)))⟩; have n1_ : Aside0 (Kd.V k84 84 w87 w.heap.size (fun k_ => k_ ≠ gb189 ∧ k_ ≠ gb190 ∧ k_ ≠ gb200 ∧ k_ ≠ gb220 ∧ k_ ≠ gb237) (.slice Ao49 t214.length co49) t214) := ⟨(by rw [hw]; exact (by (with_reducible repeat (first | apply Kd.V_alloc | apply Kd.V_drewN | apply Kd.V_drew)); exact Kd.V_mono (Kd.V_far (p := ⟨gb237, 5, none⟩) (Kd.V_far (p := ⟨gb237, 4, none⟩) (Kd.V_far (p := ⟨gb237, 3, none⟩) (Kd.V_far (p := ⟨gb237, 2, none⟩) (Kd.V_far (p := ⟨gb237, 1, none⟩) (Kd.V_far (p := ⟨gb237, 0, none⟩) (Kd.V_mono HO_221000.out (fun k_ hk => (⟨hk, hk.2⟩ : _ ∧ k_ ≠ gb237))) (fun _ hk => hk.2) (.int .i64 t228)) (fun _ hk => hk.2) (.int .i64 t229)) (fun _ hk => hk.2) (.int .i64 t230)) (fun _ hk => hk.2) (.int .i64 t231)) (fun _ hk => hk.2) (.bool t232)) (fun _ hk => hk.2) (.slice Ao86 t233.length co86)) (fun _ hk => ⟨hk.1.1.1, ⟨hk.1.1.2.1, ⟨hk.1.1.2.2.1, ⟨hk.1.1.2.2.2, hk.1.2⟩⟩⟩⟩)))⟩; have n2_ : Aside0 (Kd.V (Kd.int .i64) 3 w87 w.heap.size (fun k_ => k_ ≠ gb189 ∧ k_ ≠ gb190 ∧ k_ ≠ gb200 ∧ k_ ≠ gb220 ∧ k_ ≠ gb237) (.slice Ao86 t233.length co86) t233) := ⟨(by rw [hw]; exact (by (with_reducible repeat (first | apply Kd.V_alloc | apply Kd.V_drewN | apply Kd.V_drew)); exact Kd.V_mono (Kd.V_far (p := ⟨gb237, 5, none⟩) (Kd.V_far (p := ⟨gb237, 4, none⟩) (Kd.V_far (p := ⟨gb237, 3, none⟩) (Kd.V_far (p := ⟨gb237, 2, none⟩) (Kd.V_far (p := ⟨gb237, 1, none⟩) (Kd.V_far (p := ⟨gb237, 0, none⟩) (Kd.V_mono HO235.out (fun k_ hk => (⟨hk, hk.2⟩ : _ ∧ k_ ≠ gb237))) (fun _ hk => hk.2) (.int .i64 t228)) (fun _ hk => hk.2) (.int .i64 t229)) (fun _ hk => hk.2) (.int .i64 t230)) (fun _ hk => hk.2) (.int .i64 t231)) (fun _ hk => hk.2) (.bool t232)) (fun _ hk => hk.2) (.slice Ao86 t233.length co86)) (fun _ hk => ⟨hk.1.1.1, ⟨hk.1.1.2.1, ⟨hk.1.1.2.2.1, ⟨hk.1.1.2.2.2, hk.1.2⟩⟩⟩⟩)))⟩; have n3_ : Aside0 (w87.heap[gb189]? = some (.cells #[.slice A0_0 l0_0.length c0_0, .int .i64 a0_1, .int .i64 a0_2] 26 (0, 0))) := ⟨(by rw [hw]; exact (by (with_reducible repeat (first | refine blk_drewN ?_ _ | refine blk_drew ?_ | refine blk_alloc ?_ _)); refine blk_far ?_ NB189_237.out _; (with_reducible repeat (first | refine blk_drewN ?_ _ | refine blk_drew ?_ | refine blk_alloc ?_ _)); refine blk_far ?_ NB189_237.out _; (with_reducible repeat (first | refine blk_drewN ?_ _ | refine blk_drew ?_ | refine blk_alloc ?_ _)); refine blk_far ?_ NB189_237.out _; (with_reducible repeat (first | refine blk_drewN ?_ _ | refine blk_drew ?_ | refine blk_alloc ?_ _)); refine blk_far ?_ NB189_237.out _; (with_reducible repeat (first | refine blk_drewN ?_ _ | refine blk_drew ?_ | refine blk_alloc ?_ _)); refine blk_far ?_ NB189_237.out _; (with_reducible repeat (first | refine blk_drewN ?_ _ | refine blk_drew ?_ | refine blk_alloc ?_ _)); refine blk_far ?_ NB189_237.out _; (with_reducible repeat (first | refine blk_drewN ?_ _ | refine blk_drew ?_ | refine blk_alloc ?_ _)); exact BK189.out))⟩; have n4_ : Aside0 (w87.heap[gb190]? = some (.cells #[.int .i64 a2_0, .int .i64 a2_1, .int .i64 a2_2, .int .i64 a2_3, .bool a2_4, .slice A2_5 l2_5.length c2_5] 29 (0, 0))) := ⟨(by rw [hw]; exact (by (with_reducible repeat (first | refine blk_drewN ?_ _ | refine blk_drew ?_ | refine blk_alloc ?_ _)); refine blk_far ?_ NB190_237.out _; (with_reducible repeat (first | refine blk_drewN ?_ _ | refine blk_drew ?_ | refine blk_alloc ?_ _)); refine blk_far ?_ NB190_237.out _; (with_reducible repeat (first | refine blk_drewN ?_ _ | refine blk_drew ?_ | refine blk_alloc ?_ _)); refine blk_far ?_ NB190_237.out _; (with_reducible repeat (first | refine blk_drewN ?_ _ | refine blk_drew ?_ | refine blk_alloc ?_ _)); refine blk_far ?_ NB190_237.out _; (with_reducible repeat (first | refine blk_drewN ?_ _ | refine blk_drew ?_ | refine blk_alloc ?_ _)); refine blk_far ?_ NB190_237.out _; (with_reducible repeat (first | refine blk_drewN ?_ _ | refine blk_drew ?_ | refine blk_alloc ?_ _)); refine blk_far ?_ NB190_237.out _; (with_reducible repeat (first | refine blk_drewN ?_ _ | refine blk_drew ?_ | refine blk_alloc ?_ _)); exact BK190.out))⟩; have n5_ : Aside0 (w87.heap[gb200]? = some (.cells #[.slice Ao36 t194.length co36, .int .i64 t197, .int .i64 t198] 26 (0, 0))) := ⟨(by rw [hw]; exact (by (with_reducible repeat (first | refine blk_drewN ?_ _ | refine blk_drew ?_ | refine blk_alloc ?_ _)); refine blk_far ?_ NB200_237.out _; (with_reducible repeat (first | refine blk_drewN ?_ _ | refine blk_drew ?_ | refine blk_alloc ?_ _)); refine blk_far ?_ NB200_237.out _; (with_reducible repeat (first | refine blk_drewN ?_ _ | refine blk_drew ?_ | refine blk_alloc ?_ _)); refine blk_far ?_ NB200_237.out _; (with_reducible repeat (first | refine blk_drewN ?_ _ | refine blk_drew ?_ | refine blk_alloc ?_ _)); refine blk_far ?_ NB200_237.out _; (with_reducible repeat (first | refine blk_drewN ?_ _ | refine blk_drew ?_ | refine blk_alloc ?_ _)); refine blk_far ?_ NB200_237.out _; (with_reducible repeat (first | refine blk_drewN ?_ _ | refine blk_drew ?_ | refine blk_alloc ?_ _)); refine blk_far ?_ NB200_237.out _; (with_reducible repeat (first | refine blk_drewN ?_ _ | refine blk_drew ?_ | refine blk_alloc ?_ _)); exact BK200.out))⟩; have n6_ : Aside0 (w87.heap[gb220]? = some (.cells #[.slice Ao49 t214.length co49, .int .i64 t217, .int .i64 t218] 37 (0, 0))) := ⟨(by rw [hw]; exact (by (with_reducible repeat (first | refine blk_drewN ?_ _ | refine blk_drew ?_ | refine blk_alloc ?_ _)); refine blk_far ?_ NB220_237.out _; (with_reducible repeat (first | refine blk_drewN ?_ _ | refine blk_drew ?_ | refine blk_alloc ?_ _)); refine blk_far ?_ NB220_237.out _; (with_reducible repeat (first | refine blk_drewN ?_ _ | refine blk_drew ?_ | refine blk_alloc ?_ _)); refine blk_far ?_ NB220_237.out _; (with_reducible repeat (first | refine blk_drewN ?_ _ | refine blk_drew ?_ | refine blk_alloc ?_ _)); refine blk_far ?_ NB220_237.out _; (with_reducible repeat (first | refine blk_drewN ?_ _ | refine blk_drew ?_ | refine blk_alloc ?_ _)); refine blk_far ?_ NB220_237.out _; (with_reducible repeat (first | refine blk_drewN ?_ _ | refine blk_drew ?_ | refine blk_alloc ?_ _)); refine blk_far ?_ NB220_237.out _; (with_reducible repeat (first | refine blk_drewN ?_ _ | refine blk_drew ?_ | refine blk_alloc ?_ _)); exact BK220.out))⟩; have n7_ : Aside0 (w87.heap[gb237]? = some (.cells #[.int .i64 t228, .int .i64 t229, .int .i64 t230, .int .i64 t231, .bool t232, .slice Ao86 t233.length co86] 29 (0, 0))) := ⟨(by rw [hw]; exact (by (with_reducible repeat (first | refine blk_drewN ?_ _ | refine blk_drew ?_ | refine blk_alloc ?_ _)); refine blk_put (cs := #[.int .i64 t228, .int .i64 t229, .int .i64 t230, .int .i64 t231, .bool t232, .slice none 0 0]) ?_ 5 _ rfl; (with_reducible repeat (first | refine blk_drewN ?_ _ | refine blk_drew ?_ | refine blk_alloc ?_ _)); refine blk_put (cs := #[.int .i64 t228, .int .i64 t229, .int .i64 t230, .int .i64 t231, .bool false, .slice none 0 0]) ?_ 4 _ rfl; (with_reducible repeat (first | refine blk_drewN ?_ _ | refine blk_drew ?_ | refine blk_alloc ?_ _)); refine blk_put (cs := #[.int .i64 t228, .int .i64 t229, .int .i64 t230, .int .i64 0, .bool false, .slice none 0 0]) ?_ 3 _ rfl; (with_reducible repeat (first | refine blk_drewN ?_ _ | refine blk_drew ?_ | refine blk_alloc ?_ _)); refine blk_put (cs := #[.int .i64 t228, .int .i64 t229, .int .i64 0, .int .i64 0, .bool false, .slice none 0 0]) ?_ 2 _ rfl; (with_reducible repeat (first | refine blk_drewN ?_ _ | refine blk_drew ?_ | refine blk_alloc ?_ _)); refine blk_put (cs := #[.int .i64 t228, .int .i64 0, .int .i64 0, .int .i64 0, .bool false, .slice none 0 0]) ?_ 1 _ rfl; (with_reducible repeat (first | refine blk_drewN ?_ _ | refine blk_drew ?_ | refine blk_alloc ?_ _)); refine blk_put (cs := #[.int .i64 0, .int .i64 0, .int .i64 0, .int .i64 0, .bool false, .slice none 0 0]) ?_ 0 _ rfl; (with_reducible repeat (first | refine blk_drewN ?_ _ | refine blk_drew ?_ | refine blk_alloc ?_ _)); exact BK237.out))⟩; have n8_ : Aside0 (Below w.heap.size w w87) := ⟨(by rw [hw]; exact (by repeat (first | (with_reducible first | exact HB.out | apply below_alloc | apply pw_below_drewN | apply below_drew1 | refine below_set ?_ GE189.out | refine below_set ?_ GE190.out | refine below_set ?_ GE200.out | refine below_set ?_ GE220.out | refine below_set ?_ GE237.out) | exact HB.out)))⟩; clear hw; clear HO_201000; clear HO_221000; clear HO235; clear BK189; clear BK190; clear BK200; clear BK220; clear BK237; clear HB; have HO_201000 := n0_; have HO_221000 := n1_; have HO235 := n2_; have BK189 := n3_; have BK190 := n4_; have BK200 := n5_; have BK220 := n6_; have BK237 := n7_; have HB := n8_; clear n0_ n1_ n2_ n3_ n4_ n5_ n6_ n7_ n8_; have hnb88 := NB189_190.out; have hnc88 := NB190_189.out; have hcz89_0 : w87.cell? ⟨gb189, 0, none⟩ = some (.slice A0_0 l0_0.length c0_0) := (blk_cell BK189.out 0).trans rfl; have hcz89_1 : w87.cell? ⟨gb189, 1, none⟩ = some (.int .i64 a0_1) := (blk_cell BK189.out 1).trans rfl; have hcz89_2 : w87.cell? ⟨gb189, 2, none⟩ = some (.int .i64 a0_2) := (blk_cell BK189.out 2).trans rfl; have hfz89_0 := blk_frozen BK189.out 0; have hfz89_1 := blk_frozen BK189.out 1; have hfz89_2 := blk_frozen BK189.out 2) | ((with_reducible refine gate_callee (f := 23) rfl ?_); refine goesL_ (some 67) rfl rfl Try.func23 (by kernel_rfl) rfl #[.agg #[.slice A0_0 l0_0.length c0_0, .int .i64 a0_1, .int .i64 a0_2], .int .i64 a1] rfl mT ?_; (with_reducible refine (store_Get.calls (fun k_ => k_ < w.heap.size) _ _ l0_0 a0_1 a0_2 a1 t238 t239 t240 t241 t242 t243 t246 _ ?side1 A65.out).mono ?_); (case side1 => exact Kd.V_mk HC0_0.out (Kd.F_below (Kd.C_F k82_heap HR0_0.out) (by repeat (first | (with_reducible first | exact HB.out | apply below_alloc | apply pw_below_drewN | apply below_drew1 | refine below_set ?_ GE189.out | refine below_set ?_ GE190.out | refine below_set ?_ GE200.out | refine below_set ?_ GE220.out | refine below_set ?_ GE237.out) | exact HB.out)))); rintro e w90 ⟨v244, rfl, ho0, hb⟩; refine ⟨_, rfl, ?_⟩; have n0_ := Aside0.mk (Kd.V_below (by (with_reducible repeat (first | apply Kd.V_alloc | apply Kd.V_drewN | apply Kd.V_drew)); exact HO_201000.out) hb); have n1_ := Aside0.mk (Kd.V_below (by (with_reducible repeat (first | apply Kd.V_alloc | apply Kd.V_drewN | apply Kd.V_drew)); exact HO_221000.out) hb); have n2_ := Aside0.mk (Kd.V_below (by (with_reducible repeat (first | apply Kd.V_alloc | apply Kd.V_drewN | apply Kd.V_drew)); exact HO235.out) hb); have n3_ := Aside0.mk (Kd.V_lower (Kd.V_mono (ok' := fun k_ => k_ ≠ gb189 ∧ k_ ≠ gb190 ∧ k_ ≠ gb200 ∧ k_ ≠ gb220 ∧ k_ ≠ gb237) ho0 (fun k_ hk_ => ⟨Or.elim hk_ (fun hs_ => fun e_ => Nat.not_le.2 hs_ (by rw [e_]; exact GW189.out)) (fun hn_ => (Kd.freshB (g := gb189) (o := .cells #[.slice A0_0 l0_0.length c0_0, .int .i64 a0_1, .int .i64 a0_2] 26 (0, 0)) (kT BK189.out) k_ hn_)), Or.elim hk_ (fun hs_ => fun e_ => Nat.not_le.2 hs_ (by rw [e_]; exact GW190.out)) (fun hn_ => (Kd.freshB (g := gb190) (o := .cells #[.int .i64 a2_0, .int .i64 a2_1, .int .i64 a2_2, .int .i64 a2_3, .bool a2_4, .slice A2_5 l2_5.length c2_5] 29 (0, 0)) (kT BK190.out) k_ hn_)), Or.elim hk_ (fun hs_ => fun e_ => Nat.not_le.2 hs_ (by rw [e_]; exact GW200.out)) (fun hn_ => (Kd.freshB (g := gb200) (o := .cells #[.slice Ao36 t194.length co36, .int .i64 t197, .int .i64 t198] 26 (0, 0)) (kT BK200.out) k_ hn_)), Or.elim hk_ (fun hs_ => fun e_ => Nat.not_le.2 hs_ (by rw [e_]; exact GW220.out)) (fun hn_ => (Kd.freshB (g := gb220) (o := .cells #[.slice Ao49 t214.length co49, .int .i64 t217, .int .i64 t218] 37 (0, 0)) (kT BK220.out) k_ hn_)), Or.elim hk_ (fun hs_ => fun e_ => Nat.not_le.2 hs_ (by rw [e_]; exact GW237.out)) (fun hn_ => (Kd.freshB (g := gb237) (o := .cells #[.int .i64 t228, .int .i64 t229, .int .i64 t230, .int .i64 t231, .bool t232, .slice Ao86 t233.length co86] 29 (0, 0)) (kT BK237.out) k_ hn_))⟩)) (below_size (by repeat (first | (with_reducible first | exact HB.out | apply below_alloc | apply pw_below_drewN | apply below_drew1 | refine below_set ?_ GE189.out | refine below_set ?_ GE190.out | refine below_set ?_ GE200.out | refine below_set ?_ GE220.out | refine below_set ?_ GE237.out) | exact HB.out)))); have n4_ := Aside0.mk (blk_below (g := gb189) (o := .cells #[.slice A0_0 l0_0.length c0_0, .int .i64 a0_1, .int .i64 a0_2] 26 (0, 0)) (kT BK189.out) hb); have n5_ := Aside0.mk (blk_below (g := gb190) (o := .cells #[.int .i64 a2_0, .int .i64 a2_1, .int .i64 a2_2, .int .i64 a2_3, .bool a2_4, .slice A2_5 l2_5.length c2_5] 29 (0, 0)) (kT BK190.out) hb); have n6_ := Aside0.mk (blk_below (g := gb200) (o := .cells #[.slice Ao36 t194.length co36, .int .i64 t197, .int .i64 t198] 26 (0, 0)) (kT BK200.out) hb); have n7_ := Aside0.mk (blk_below (g := gb220) (o := .cells #[.slice Ao49 t214.length co49, .int .i64 t217, .int .i64 t218] 37 (0, 0)) (kT BK220.out) hb); have n8_ := Aside0.mk (blk_below (g := gb237) (o := .cells #[.int .i64 t228, .int .i64 t229, .int .i64 t230, .int .i64 t231, .bool t232, .slice Ao86 t233.length co86] 29 (0, 0)) (kT BK237.out) hb); have n9_ := Aside0.mk (below_step (by repeat (first | (with_reducible first | exact HB.out | apply below_alloc | apply pw_below_drewN | apply below_drew1 | refine below_set ?_ GE189.out | refine below_set ?_ GE190.out | refine below_set ?_ GE200.out | refine below_set ?_ GE220.out | refine below_set ?_ GE237.out) | exact HB.out)) hb); clear HO_201000; clear HO_221000; clear HO235; clear BK189; clear BK190; clear BK200; clear BK220; clear BK237; clear HB; have HO_201000 := n0_; have HO_221000 := n1_; have HO235 := n2_; have HO245 := n3_; have BK189 := n4_; have BK190 := n5_; have BK200 := n6_; have BK220 := n7_; have BK237 := n8_; have HB := n9_; clear n0_ n1_ n2_ n3_ n4_ n5_ n6_ n7_ n8_ n9_; (try clear hb); (try clear hb2); (try clear hk); (try clear hi); (try clear ho0)) | ((with_reducible refine gate_dst (N := 13) rfl ?_); (try (refine gate_guard (by rfl) ?_; dsimp only)); refine box_event ?hg (N := 13) ?hd (cs := #[.int .i64 0, .int .i64 0, .int .i64 0, .int .i64 0, .bool false, .slice none 0 0]) (t := 29) ?hr ?_; (case hd => rfl); (case hg => rfl); (case hr => first | (go_simp; done) | (go_simp; rfl)); intro gb247 hg w91 hbox hb; have n0_ := Aside0.mk (Kd.V_below (Kd.V_elderB (by (with_reducible repeat (first | apply Kd.V_alloc | apply Kd.V_drewN | apply Kd.V_drew)); exact HO_201000.out) gb247 (Nat.le_of_eq hg.symm)) hb); have n1_ := Aside0.mk (Kd.V_below (Kd.V_elderB (by (with_reducible repeat (first | apply Kd.V_alloc | apply Kd.V_drewN | apply Kd.V_drew)); exact HO_221000.out) gb247 (Nat.le_of_eq hg.symm)) hb); have n2_ := Aside0.mk (Kd.V_below (Kd.V_elderB (by (with_reducible repeat (first | apply Kd.V_alloc | apply Kd.V_drewN | apply Kd.V_drew)); exact HO235.out) gb247 (Nat.le_of_eq hg.symm)) hb); have n3_ := Aside0.mk (Kd.V_below (Kd.V_elderB (by (with_reducible repeat (first | apply Kd.V_alloc | apply Kd.V_drewN | apply Kd.V_drew)); exact HO245.out) gb247 (Nat.le_of_eq hg.symm)) hb); have n4_ := Aside0.mk (blk_below (g := gb189) (o := .cells #[.slice A0_0 l0_0.length c0_0, .int .i64 a0_1, .int .i64 a0_2] 26 (0, 0)) (kT BK189.out) hb); have n5_ := Aside0.mk (blk_below (g := gb190) (o := .cells #[.int .i64 a2_0, .int .i64 a2_1, .int .i64 a2_2, .int .i64 a2_3, .bool a2_4, .slice A2_5 l2_5.length c2_5] 29 (0, 0)) (kT BK190.out) hb); have n6_ := Aside0.mk (blk_below (g := gb200) (o := .cells #[.slice Ao36 t194.length co36, .int .i64 t197, .int .i64 t198] 26 (0, 0)) (kT BK200.out) hb); have n7_ := Aside0.mk (blk_below (g := gb220) (o := .cells #[.slice Ao49 t214.length co49, .int .i64 t217, .int .i64 t218] 37 (0, 0)) (kT BK220.out) hb); have n8_ := Aside0.mk (blk_below (g := gb237) (o := .cells #[.int .i64 t228, .int .i64 t229, .int .i64 t230, .int .i64 t231, .bool t232, .slice Ao86 t233.length co86] 29 (0, 0)) (kT BK237.out) hb); have n9_ := Aside0.mk (below_step (by repeat (first | (with_reducible first | exact HB.out | apply below_alloc | apply pw_below_drewN | apply below_drew1 | refine below_set ?_ GE189.out | refine below_set ?_ GE190.out | refine below_set ?_ GE200.out | refine below_set ?_ GE220.out | refine below_set ?_ GE237.out) | exact HB.out)) hb); have n10_ := Aside0.mk (hbox); have n11_ := Aside0.mk ((by rw [hg]; exact (below_size (by repeat (first | (with_reducible first | exact HB.out | apply below_alloc | apply pw_below_drewN | apply below_drew1 | refine below_set ?_ GE189.out | refine below_set ?_ GE190.out | refine below_set ?_ GE200.out | refine below_set ?_ GE220.out | refine below_set ?_ GE237.out) | exact HB.out))) : w.heap.size ≤ gb247)); have n12_ := Aside0.mk ((by rw [hg]; exact (below_size (by repeat (first | (with_reducible first | exact HB.out | apply below_alloc | apply pw_below_drewN | apply below_drew1 | refine below_set ?_ GE189.out | refine below_set ?_ GE190.out | refine below_set ?_ GE200.out | refine below_set ?_ GE220.out | refine below_set ?_ GE237.out) | exact HB.out))) : w.heap.size ≤ gb247)); have n13_ := Aside0.mk ((by rw [hg]; exact Nat.ne_of_lt (blk_lt (g := gb189) (o := .cells #[.slice A0_0 l0_0.length c0_0, .int .i64 a0_1, .int .i64 a0_2] 26 (0, 0)) (kT BK189.out)) : gb189 ≠ gb247)); have n14_ := Aside0.mk ((by rw [hg]; exact Nat.ne_of_gt (blk_lt (g := gb189) (o := .cells #[.slice A0_0 l0_0.length c0_0, .int .i64 a0_1, .int .i64 a0_2] 26 (0, 0)) (kT BK189.out)) : gb247 ≠ gb189)); have n15_ := Aside0.mk ((by rw [hg]; exact Nat.ne_of_lt (blk_lt (g := gb190) (o := .cells #[.int .i64 a2_0, .int .i64 a2_1, .int .i64 a2_2, .int .i64 a2_3, .bool a2_4, .slice A2_5 l2_5.length c2_5] 29 (0, 0)) (kT BK190.out)) : gb190 ≠ gb247)); have n16_ := Aside0.mk ((by rw [hg]; exact Nat.ne_of_gt (blk_lt (g := gb190) (o := .cells #[.int .i64 a2_0, .int .i64 a2_1, .int .i64 a2_2, .int .i64 a2_3, .bool a2_4, .slice A2_5 l2_5.length c2_5] 29 (0, 0)) (kT BK190.out)) : gb247 ≠ gb190)); have n17_ := Aside0.mk ((by rw [hg]; exact Nat.ne_of_lt (blk_lt (g := gb200) (o := .cells #[.slice Ao36 t194.length co36, .int .i64 t197, .int .i64 t198] 26 (0, 0)) (kT BK200.out)) : gb200 ≠ gb247)); have n18_ := Aside0.mk ((by rw [hg]; exact Nat.ne_of_gt (blk_lt (g := gb200) (o := .cells #[.slice Ao36 t194.length co36, .int .i64 t197, .int .i64 t198] 26 (0, 0)) (kT BK200.out)) : gb247 ≠ gb200)); have n19_ := Aside0.mk ((by rw [hg]; exact Nat.ne_of_lt (blk_lt (g := gb220) (o := .cells #[.slice Ao49 t214.length co49, .int .i64 t217, .int .i64 t218] 37 (0, 0)) (kT BK220.out)) : gb220 ≠ gb247)); have n20_ := Aside0.mk ((by rw [hg]; exact Nat.ne_of_gt (blk_lt (g := gb220) (o := .cells #[.slice Ao49 t214.length co49, .int .i64 t217, .int .i64 t218] 37 (0, 0)) (kT BK220.out)) : gb247 ≠ gb220)); have n21_ := Aside0.mk ((by rw [hg]; exact Nat.ne_of_lt (blk_lt (g := gb237) (o := .cells #[.int .i64 t228, .int .i64 t229, .int .i64 t230, .int .i64 t231, .bool t232, .slice Ao86 t233.length co86] 29 (0, 0)) (kT BK237.out)) : gb237 ≠ gb247)); have n22_ := Aside0.mk ((by rw [hg]; exact Nat.ne_of_gt (blk_lt (g := gb237) (o := .cells #[.int .i64 t228, .int .i64 t229, .int .i64 t230, .int .i64 t231, .bool t232, .slice Ao86 t233.length co86] 29 (0, 0)) (kT BK237.out)) : gb247 ≠ gb237)); clear HO_201000; clear HO_221000; clear HO235; clear HO245; clear BK189; clear BK190; clear BK200; clear BK220; clear BK237; clear HB; have HO_201000 := n0_; have HO_221000 := n1_; have HO235 := n2_; have HO245 := n3_; have BK189 := n4_; have BK190 := n5_; have BK200 := n6_; have BK220 := n7_; have BK237 := n8_; have HB := n9_; have BK247 := n10_; have GW247 := n11_; have GE247 := n12_; have NB189_247 := n13_; have NB247_189 := n14_; have NB190_247 := n15_; have NB247_190 := n16_; have NB200_247 := n17_; have NB247_200 := n18_; have NB220_247 := n19_; have NB247_220 := n20_; have NB237_247 := n21_; have NB247_237 := n22_; clear n0_ n1_ n2_ n3_ n4_ n5_ n6_ n7_ n8_ n9_ n10_ n11_ n12_ n13_ n14_ n15_ n16_ n17_ n18_ n19_ n20_ n21_ n22_; clear hb hbox hg; have hnb92 := NB247_189.out; have hnc92 := NB189_247.out; have hnb93 := NB247_190.out; have hnc93 := NB190_247.out; have hnb94 := NB247_200.out; have hnc94 := NB200_247.out; have hnb95 := NB247_220.out; have hnc95 := NB220_247.out; have hnb96 := NB247_237.out; have hnc96 := NB237_247.out; have hcz97_0 : w91.cell? ⟨gb247, 0, none⟩ = some (.int .i64 0) := (blk_cell BK247.out 0).trans rfl; have hcz97_1 : w91.cell? ⟨gb247, 1, none⟩ = some (.int .i64 0) := (blk_cell BK247.out 1).trans rfl; have hcz97_2 : w91.cell? ⟨gb247, 2, none⟩ = some (.int .i64 0) := (blk_cell BK247.out 2).trans rfl; have hcz97_3 : w91.cell? ⟨gb247, 3, none⟩ = some (.int .i64 0) := (blk_cell BK247.out 3).trans rfl; have hcz97_4 : w91.cell? ⟨gb247, 4, none⟩ = some (.bool false) := (blk_cell BK247.out 4).trans rfl; have hcz97_5 : w91.cell? ⟨gb247, 5, none⟩ = some (.slice none 0 0) := (blk_cell BK247.out 5).trans rfl; have hfz97_0 := blk_frozen BK247.out 0; have hfz97_1 := blk_frozen BK247.out 1; have hfz97_2 := blk_frozen BK247.out 2; have hfz97_3 := blk_frozen BK247.out 3; have hfz97_4 := blk_frozen BK247.out 4; have hfz97_5 := blk_frozen BK247.out 5; obtain ⟨Ao98, co98, eo98⟩ := Kd.V_slice HO245.out; subst eo98))
          have n0_ : Aside0 (Kd.V k82 82 ((((((w91.setCell ⟨gb247, 0, none⟩ (.int .i64 t238)).setCell ⟨gb247, 1, none⟩ (.int .i64 t239)).setCell ⟨gb247, 2, none⟩ (.int .i64 t240)).setCell ⟨gb247, 3, none⟩ (.int .i64 t241)).setCell ⟨gb247, 4, none⟩ (.bool t242)).setCell ⟨gb247, 5, none⟩ (.slice Ao98 t243.length co98)) w.heap.size (fun k_ => k_ ≠ gb189 ∧ k_ ≠ gb190 ∧ k_ ≠ gb200 ∧ k_ ≠ gb220 ∧ k_ ≠ gb237 ∧ k_ ≠ gb247) (.slice Ao36 t194.length co36) t194) := ⟨by (with_reducible repeat (first | apply Kd.V_alloc | apply Kd.V_drewN | apply Kd.V_drew)); exact Kd.V_mono (Kd.V_far (p := ⟨gb247, 5, none⟩) (Kd.V_far (p := ⟨gb247, 4, none⟩) (Kd.V_far (p := ⟨gb247, 3, none⟩) (Kd.V_far (p := ⟨gb247, 2, none⟩) (Kd.V_far (p := ⟨gb247, 1, none⟩) (Kd.V_far (p := ⟨gb247, 0, none⟩) (Kd.V_mono HO_201000.out (fun k_ hk => (⟨hk, hk.2⟩ : _ ∧ k_ ≠ gb247))) (fun _ hk => hk.2) (.int .i64 t238)) (fun _ hk => hk.2) (.int .i64 t239)) (fun _ hk => hk.2) (.int .i64 t240)) (fun _ hk => hk.2) (.int .i64 t241)) (fun _ hk => hk.2) (.bool t242)) (fun _ hk => hk.2) (.slice Ao98 t243.length co98)) (fun _ hk => ⟨hk.1.1.1, ⟨hk.1.1.2.1, ⟨hk.1.1.2.2.1, ⟨hk.1.1.2.2.2.1, ⟨hk.1.1.2.2.2.2, hk.1.2⟩⟩⟩⟩⟩)⟩
          have n1_ : Aside0 (Kd.V k84 84 ((((((w91.setCell ⟨gb247, 0, none⟩ (.int .i64 t238)).setCell ⟨gb247, 1, none⟩ (.int .i64 t239)).setCell ⟨gb247, 2, none⟩ (.int .i64 t240)).setCell ⟨gb247, 3, none⟩ (.int .i64 t241)).setCell ⟨gb247, 4, none⟩ (.bool t242)).setCell ⟨gb247, 5, none⟩ (.slice Ao98 t243.length co98)) w.heap.size (fun k_ => k_ ≠ gb189 ∧ k_ ≠ gb190 ∧ k_ ≠ gb200 ∧ k_ ≠ gb220 ∧ k_ ≠ gb237 ∧ k_ ≠ gb247) (.slice Ao49 t214.length co49) t214) := ⟨by (with_reducible repeat (first | apply Kd.V_alloc | apply Kd.V_drewN | apply Kd.V_drew)); exact Kd.V_mono (Kd.V_far (p := ⟨gb247, 5, none⟩) (Kd.V_far (p := ⟨gb247, 4, none⟩) (Kd.V_far (p := ⟨gb247, 3, none⟩) (Kd.V_far (p := ⟨gb247, 2, none⟩) (Kd.V_far (p := ⟨gb247, 1, none⟩) (Kd.V_far (p := ⟨gb247, 0, none⟩) (Kd.V_mono HO_221000.out (fun k_ hk => (⟨hk, hk.2⟩ : _ ∧ k_ ≠ gb247))) (fun _ hk => hk.2) (.int .i64 t238)) (fun _ hk => hk.2) (.int .i64 t239)) (fun _ hk => hk.2) (.int .i64 t240)) (fun _ hk => hk.2) (.int .i64 t241)) (fun _ hk => hk.2) (.bool t242)) (fun _ hk => hk.2) (.slice Ao98 t243.length co98)) (fun _ hk => ⟨hk.1.1.1, ⟨hk.1.1.2.1, ⟨hk.1.1.2.2.1, ⟨hk.1.1.2.2.2.1, ⟨hk.1.1.2.2.2.2, hk.1.2⟩⟩⟩⟩⟩)⟩
          have n2_ : Aside0 (Kd.V (Kd.int .i64) 3 ((((((w91.setCell ⟨gb247, 0, none⟩ (.int .i64 t238)).setCell ⟨gb247, 1, none⟩ (.int .i64 t239)).setCell ⟨gb247, 2, none⟩ (.int .i64 t240)).setCell ⟨gb247, 3, none⟩ (.int .i64 t241)).setCell ⟨gb247, 4, none⟩ (.bool t242)).setCell ⟨gb247, 5, none⟩ (.slice Ao98 t243.length co98)) w.heap.size (fun k_ => k_ ≠ gb189 ∧ k_ ≠ gb190 ∧ k_ ≠ gb200 ∧ k_ ≠ gb220 ∧ k_ ≠ gb237 ∧ k_ ≠ gb247) (.slice Ao86 t233.length co86) t233) := ⟨by (with_reducible repeat (first | apply Kd.V_alloc | apply Kd.V_drewN | apply Kd.V_drew)); exact Kd.V_mono (Kd.V_far (p := ⟨gb247, 5, none⟩) (Kd.V_far (p := ⟨gb247, 4, none⟩) (Kd.V_far (p := ⟨gb247, 3, none⟩) (Kd.V_far (p := ⟨gb247, 2, none⟩) (Kd.V_far (p := ⟨gb247, 1, none⟩) (Kd.V_far (p := ⟨gb247, 0, none⟩) (Kd.V_mono HO235.out (fun k_ hk => (⟨hk, hk.2⟩ : _ ∧ k_ ≠ gb247))) (fun _ hk => hk.2) (.int .i64 t238)) (fun _ hk => hk.2) (.int .i64 t239)) (fun _ hk => hk.2) (.int .i64 t240)) (fun _ hk => hk.2) (.int .i64 t241)) (fun _ hk => hk.2) (.bool t242)) (fun _ hk => hk.2) (.slice Ao98 t243.length co98)) (fun _ hk => ⟨hk.1.1.1, ⟨hk.1.1.2.1, ⟨hk.1.1.2.2.1, ⟨hk.1.1.2.2.2.1, ⟨hk.1.1.2.2.2.2, hk.1.2⟩⟩⟩⟩⟩)⟩
          have n3_ : Aside0 (Kd.V (Kd.int .i64) 3 ((((((w91.setCell ⟨gb247, 0, none⟩ (.int .i64 t238)).setCell ⟨gb247, 1, none⟩ (.int .i64 t239)).setCell ⟨gb247, 2, none⟩ (.int .i64 t240)).setCell ⟨gb247, 3, none⟩ (.int .i64 t241)).setCell ⟨gb247, 4, none⟩ (.bool t242)).setCell ⟨gb247, 5, none⟩ (.slice Ao98 t243.length co98)) w.heap.size (fun k_ => k_ ≠ gb189 ∧ k_ ≠ gb190 ∧ k_ ≠ gb200 ∧ k_ ≠ gb220 ∧ k_ ≠ gb237 ∧ k_ ≠ gb247) (.slice Ao98 t243.length co98) t243) := ⟨by (with_reducible repeat (first | apply Kd.V_alloc | apply Kd.V_drewN | apply Kd.V_drew)); exact Kd.V_mono (Kd.V_far (p := ⟨gb247, 5, none⟩) (Kd.V_far (p := ⟨gb247, 4, none⟩) (Kd.V_far (p := ⟨gb247, 3, none⟩) (Kd.V_far (p := ⟨gb247, 2, none⟩) (Kd.V_far (p := ⟨gb247, 1, none⟩) (Kd.V_far (p := ⟨gb247, 0, none⟩) (Kd.V_mono HO245.out (fun k_ hk => (⟨hk, hk.2⟩ : _ ∧ k_ ≠ gb247))) (fun _ hk => hk.2) (.int .i64 t238)) (fun _ hk => hk.2) (.int .i64 t239)) (fun _ hk => hk.2) (.int .i64 t240)) (fun _ hk => hk.2) (.int .i64 t241)) (fun _ hk => hk.2) (.bool t242)) (fun _ hk => hk.2) (.slice Ao98 t243.length co98)) (fun _ hk => ⟨hk.1.1.1, ⟨hk.1.1.2.1, ⟨hk.1.1.2.2.1, ⟨hk.1.1.2.2.2.1, ⟨hk.1.1.2.2.2.2, hk.1.2⟩⟩⟩⟩⟩)⟩
          have n4_ : Aside0 (((((((w91.setCell ⟨gb247, 0, none⟩ (.int .i64 t238)).setCell ⟨gb247, 1, none⟩ (.int .i64 t239)).setCell ⟨gb247, 2, none⟩ (.int .i64 t240)).setCell ⟨gb247, 3, none⟩ (.int .i64 t241)).setCell ⟨gb247, 4, none⟩ (.bool t242)).setCell ⟨gb247, 5, none⟩ (.slice Ao98 t243.length co98)).heap[gb189]? = some (.cells #[.slice A0_0 l0_0.length c0_0, .int .i64 a0_1, .int .i64 a0_2] 26 (0, 0))) := ⟨by (with_reducible repeat (first | refine blk_drewN ?_ _ | refine blk_drew ?_ | refine blk_alloc ?_ _)); refine blk_far ?_ NB189_247.out _; (with_reducible repeat (first | refine blk_drewN ?_ _ | refine blk_drew ?_ | refine blk_alloc ?_ _)); refine blk_far ?_ NB189_247.out _; (with_reducible repeat (first | refine blk_drewN ?_ _ | refine blk_drew ?_ | refine blk_alloc ?_ _)); refine blk_far ?_ NB189_247.out _; (with_reducible repeat (first | refine blk_drewN ?_ _ | refine blk_drew ?_ | refine blk_alloc ?_ _)); refine blk_far ?_ NB189_247.out _; (with_reducible repeat (first | refine blk_drewN ?_ _ | refine blk_drew ?_ | refine blk_alloc ?_ _)); refine blk_far ?_ NB189_247.out _; (with_reducible repeat (first | refine blk_drewN ?_ _ | refine blk_drew ?_ | refine blk_alloc ?_ _)); refine blk_far ?_ NB189_247.out _; (with_reducible repeat (first | refine blk_drewN ?_ _ | refine blk_drew ?_ | refine blk_alloc ?_ _)); exact BK189.out⟩
          have n5_ : Aside0 (((((((w91.setCell ⟨gb247, 0, none⟩ (.int .i64 t238)).setCell ⟨gb247, 1, none⟩ (.int .i64 t239)).setCell ⟨gb247, 2, none⟩ (.int .i64 t240)).setCell ⟨gb247, 3, none⟩ (.int .i64 t241)).setCell ⟨gb247, 4, none⟩ (.bool t242)).setCell ⟨gb247, 5, none⟩ (.slice Ao98 t243.length co98)).heap[gb190]? = some (.cells #[.int .i64 a2_0, .int .i64 a2_1, .int .i64 a2_2, .int .i64 a2_3, .bool a2_4, .slice A2_5 l2_5.length c2_5] 29 (0, 0))) := ⟨by (with_reducible repeat (first | refine blk_drewN ?_ _ | refine blk_drew ?_ | refine blk_alloc ?_ _)); refine blk_far ?_ NB190_247.out _; (with_reducible repeat (first | refine blk_drewN ?_ _ | refine blk_drew ?_ | refine blk_alloc ?_ _)); refine blk_far ?_ NB190_247.out _; (with_reducible repeat (first | refine blk_drewN ?_ _ | refine blk_drew ?_ | refine blk_alloc ?_ _)); refine blk_far ?_ NB190_247.out _; (with_reducible repeat (first | refine blk_drewN ?_ _ | refine blk_drew ?_ | refine blk_alloc ?_ _)); refine blk_far ?_ NB190_247.out _; (with_reducible repeat (first | refine blk_drewN ?_ _ | refine blk_drew ?_ | refine blk_alloc ?_ _)); refine blk_far ?_ NB190_247.out _; (with_reducible repeat (first | refine blk_drewN ?_ _ | refine blk_drew ?_ | refine blk_alloc ?_ _)); refine blk_far ?_ NB190_247.out _; (with_reducible repeat (first | refine blk_drewN ?_ _ | refine blk_drew ?_ | refine blk_alloc ?_ _)); exact BK190.out⟩
          have n6_ : Aside0 (((((((w91.setCell ⟨gb247, 0, none⟩ (.int .i64 t238)).setCell ⟨gb247, 1, none⟩ (.int .i64 t239)).setCell ⟨gb247, 2, none⟩ (.int .i64 t240)).setCell ⟨gb247, 3, none⟩ (.int .i64 t241)).setCell ⟨gb247, 4, none⟩ (.bool t242)).setCell ⟨gb247, 5, none⟩ (.slice Ao98 t243.length co98)).heap[gb200]? = some (.cells #[.slice Ao36 t194.length co36, .int .i64 t197, .int .i64 t198] 26 (0, 0))) := ⟨by (with_reducible repeat (first | refine blk_drewN ?_ _ | refine blk_drew ?_ | refine blk_alloc ?_ _)); refine blk_far ?_ NB200_247.out _; (with_reducible repeat (first | refine blk_drewN ?_ _ | refine blk_drew ?_ | refine blk_alloc ?_ _)); refine blk_far ?_ NB200_247.out _; (with_reducible repeat (first | refine blk_drewN ?_ _ | refine blk_drew ?_ | refine blk_alloc ?_ _)); refine blk_far ?_ NB200_247.out _; (with_reducible repeat (first | refine blk_drewN ?_ _ | refine blk_drew ?_ | refine blk_alloc ?_ _)); refine blk_far ?_ NB200_247.out _; (with_reducible repeat (first | refine blk_drewN ?_ _ | refine blk_drew ?_ | refine blk_alloc ?_ _)); refine blk_far ?_ NB200_247.out _; (with_reducible repeat (first | refine blk_drewN ?_ _ | refine blk_drew ?_ | refine blk_alloc ?_ _)); refine blk_far ?_ NB200_247.out _; (with_reducible repeat (first | refine blk_drewN ?_ _ | refine blk_drew ?_ | refine blk_alloc ?_ _)); exact BK200.out⟩
          have n7_ : Aside0 (((((((w91.setCell ⟨gb247, 0, none⟩ (.int .i64 t238)).setCell ⟨gb247, 1, none⟩ (.int .i64 t239)).setCell ⟨gb247, 2, none⟩ (.int .i64 t240)).setCell ⟨gb247, 3, none⟩ (.int .i64 t241)).setCell ⟨gb247, 4, none⟩ (.bool t242)).setCell ⟨gb247, 5, none⟩ (.slice Ao98 t243.length co98)).heap[gb220]? = some (.cells #[.slice Ao49 t214.length co49, .int .i64 t217, .int .i64 t218] 37 (0, 0))) := ⟨by (with_reducible repeat (first | refine blk_drewN ?_ _ | refine blk_drew ?_ | refine blk_alloc ?_ _)); refine blk_far ?_ NB220_247.out _; (with_reducible repeat (first | refine blk_drewN ?_ _ | refine blk_drew ?_ | refine blk_alloc ?_ _)); refine blk_far ?_ NB220_247.out _; (with_reducible repeat (first | refine blk_drewN ?_ _ | refine blk_drew ?_ | refine blk_alloc ?_ _)); refine blk_far ?_ NB220_247.out _; (with_reducible repeat (first | refine blk_drewN ?_ _ | refine blk_drew ?_ | refine blk_alloc ?_ _)); refine blk_far ?_ NB220_247.out _; (with_reducible repeat (first | refine blk_drewN ?_ _ | refine blk_drew ?_ | refine blk_alloc ?_ _)); refine blk_far ?_ NB220_247.out _; (with_reducible repeat (first | refine blk_drewN ?_ _ | refine blk_drew ?_ | refine blk_alloc ?_ _)); refine blk_far ?_ NB220_247.out _; (with_reducible repeat (first | refine blk_drewN ?_ _ | refine blk_drew ?_ | refine blk_alloc ?_ _)); exact BK220.out⟩
          have n8_ : Aside0 (((((((w91.setCell ⟨gb247, 0, none⟩ (.int .i64 t238)).setCell ⟨gb247, 1, none⟩ (.int .i64 t239)).setCell ⟨gb247, 2, none⟩ (.int .i64 t240)).setCell ⟨gb247, 3, none⟩ (.int .i64 t241)).setCell ⟨gb247, 4, none⟩ (.bool t242)).setCell ⟨gb247, 5, none⟩ (.slice Ao98 t243.length co98)).heap[gb237]? = some (.cells #[.int .i64 t228, .int .i64 t229, .int .i64 t230, .int .i64 t231, .bool t232, .slice Ao86 t233.length co86] 29 (0, 0))) := ⟨by (with_reducible repeat (first | refine blk_drewN ?_ _ | refine blk_drew ?_ | refine blk_alloc ?_ _)); refine blk_far ?_ NB237_247.out _; (with_reducible repeat (first | refine blk_drewN ?_ _ | refine blk_drew ?_ | refine blk_alloc ?_ _)); refine blk_far ?_ NB237_247.out _; (with_reducible repeat (first | refine blk_drewN ?_ _ | refine blk_drew ?_ | refine blk_alloc ?_ _)); refine blk_far ?_ NB237_247.out _; (with_reducible repeat (first | refine blk_drewN ?_ _ | refine blk_drew ?_ | refine blk_alloc ?_ _)); refine blk_far ?_ NB237_247.out _; (with_reducible repeat (first | refine blk_drewN ?_ _ | refine blk_drew ?_ | refine blk_alloc ?_ _)); refine blk_far ?_ NB237_247.out _; (with_reducible repeat (first | refine blk_drewN ?_ _ | refine blk_drew ?_ | refine blk_alloc ?_ _)); refine blk_far ?_ NB237_247.out _; (with_reducible repeat (first | refine blk_drewN ?_ _ | refine blk_drew ?_ | refine blk_alloc ?_ _)); exact BK237.out⟩
          have n9_ : Aside0 (((((((w91.setCell ⟨gb247, 0, none⟩ (.int .i64 t238)).setCell ⟨gb247, 1, none⟩ (.int .i64 t239)).setCell ⟨gb247, 2, none⟩ (.int .i64 t240)).setCell ⟨gb247, 3, none⟩ (.int .i64 t241)).setCell ⟨gb247, 4, none⟩ (.bool t242)).setCell ⟨gb247, 5, none⟩ (.slice Ao98 t243.length co98)).heap[gb247]? = some (.cells #[.int .i64 t238, .int .i64 t239, .int .i64 t240, .int .i64 t241, .bool t242, .slice Ao98 t243.length co98] 29 (0, 0))) := ⟨by (with_reducible repeat (first | refine blk_drewN ?_ _ | refine blk_drew ?_ | refine blk_alloc ?_ _)); refine blk_put (cs := #[.int .i64 t238, .int .i64 t239, .int .i64 t240, .int .i64 t241, .bool t242, .slice none 0 0]) ?_ 5 _ rfl; (with_reducible repeat (first | refine blk_drewN ?_ _ | refine blk_drew ?_ | refine blk_alloc ?_ _)); refine blk_put (cs := #[.int .i64 t238, .int .i64 t239, .int .i64 t240, .int .i64 t241, .bool false, .slice none 0 0]) ?_ 4 _ rfl; (with_reducible repeat (first | refine blk_drewN ?_ _ | refine blk_drew ?_ | refine blk_alloc ?_ _)); refine blk_put (cs := #[.int .i64 t238, .int .i64 t239, .int .i64 t240, .int .i64 0, .bool false, .slice none 0 0]) ?_ 3 _ rfl; (with_reducible repeat (first | refine blk_drewN ?_ _ | refine blk_drew ?_ | refine blk_alloc ?_ _)); refine blk_put (cs := #[.int .i64 t238, .int .i64 t239, .int .i64 0, .int .i64 0, .bool false, .slice none 0 0]) ?_ 2 _ rfl; (with_reducible repeat (first | refine blk_drewN ?_ _ | refine blk_drew ?_ | refine blk_alloc ?_ _)); refine blk_put (cs := #[.int .i64 t238, .int .i64 0, .int .i64 0, .int .i64 0, .bool false, .slice none 0 0]) ?_ 1 _ rfl; (with_reducible repeat (first | refine blk_drewN ?_ _ | refine blk_drew ?_ | refine blk_alloc ?_ _)); refine blk_put (cs := #[.int .i64 0, .int .i64 0, .int .i64 0, .int .i64 0, .bool false, .slice none 0 0]) ?_ 0 _ rfl; (with_reducible repeat (first | refine blk_drewN ?_ _ | refine blk_drew ?_ | refine blk_alloc ?_ _)); exact BK247.out⟩
          have n10_ : Aside0 (Below w.heap.size w ((((((w91.setCell ⟨gb247, 0, none⟩ (.int .i64 t238)).setCell ⟨gb247, 1, none⟩ (.int .i64 t239)).setCell ⟨gb247, 2, none⟩ (.int .i64 t240)).setCell ⟨gb247, 3, none⟩ (.int .i64 t241)).setCell ⟨gb247, 4, none⟩ (.bool t242)).setCell ⟨gb247, 5, none⟩ (.slice Ao98 t243.length co98))) := ⟨by repeat (first | (with_reducible first | exact HB.out | apply below_alloc | apply pw_below_drewN | apply below_drew1 | refine below_set ?_ GE189.out | refine below_set ?_ GE190.out | refine below_set ?_ GE200.out | refine below_set ?_ GE220.out | refine below_set ?_ GE237.out | refine below_set ?_ GE247.out) | exact HB.out)⟩
          (try clear HO_201000)
          (try clear HO_221000)
          (try clear HO235)
          (try clear HO245)
          (try clear BK189)
          (try clear BK190)
          (try clear BK200)
          (try clear BK220)
          (try clear BK237)
          (try clear BK247)
          (try clear HB)
          generalize ((((((w91.setCell ⟨gb247, 0, none⟩ (.int .i64 t238)).setCell ⟨gb247, 1, none⟩ (.int .i64 t239)).setCell ⟨gb247, 2, none⟩ (.int .i64 t240)).setCell ⟨gb247, 3, none⟩ (.int .i64 t241)).setCell ⟨gb247, 4, none⟩ (.bool t242)).setCell ⟨gb247, 5, none⟩ (.slice Ao98 t243.length co98)) = w99 at n0_ n1_ n2_ n3_ n4_ n5_ n6_ n7_ n8_ n9_ n10_ ⊢
          have HO_201000 := n0_
          have HO_221000 := n1_
          have HO235 := n2_
          have HO245 := n3_
          have BK189 := n4_
          have BK190 := n5_
          have BK200 := n6_
          have BK220 := n7_
          have BK237 := n8_
          have BK247 := n9_
          have HB := n10_
          clear n0_ n1_ n2_ n3_ n4_ n5_ n6_ n7_ n8_ n9_ n10_
          have n0_ := Aside0.mk (Kd.V_drew HO_201000.out)
          have n1_ := Aside0.mk (Kd.V_drew HO_221000.out)
          have n2_ := Aside0.mk (Kd.V_drew HO235.out)
          have n3_ := Aside0.mk (Kd.V_drew HO245.out)
          have n4_ := Aside0.mk (blk_drew BK189.out)
          have n5_ := Aside0.mk (blk_drew BK190.out)
          have n6_ := Aside0.mk (blk_drew BK200.out)
          have n7_ := Aside0.mk (blk_drew BK220.out)
          have n8_ := Aside0.mk (blk_drew BK237.out)
          have n9_ := Aside0.mk (blk_drew BK247.out)
          have n10_ := Aside0.mk (below_drew1 HB.out)
          clear HO_201000
          clear HO_221000
          clear HO235
          clear HO245
          clear BK189
          clear BK190
          clear BK200
          clear BK220
          clear BK237
          clear BK247
          clear HB
          have HO_201000 := n0_
          have HO_221000 := n1_
          have HO235 := n2_
          have HO245 := n3_
          have BK189 := n4_
          have BK190 := n5_
          have BK200 := n6_
          have BK220 := n7_
          have BK237 := n8_
          have BK247 := n9_
          have HB := n10_
          clear n0_ n1_ n2_ n3_ n4_ n5_ n6_ n7_ n8_ n9_ n10_
          refine start_ (n := 15) (S := fun w' => w'.cell? ⟨gb237, 0, none⟩ = some (.int .i64 t228) ∧ w'.cell? ⟨gb237, 1, none⟩ = some (.int .i64 t229) ∧ w'.cell? ⟨gb237, 2, none⟩ = some (.int .i64 t230) ∧ w'.cell? ⟨gb237, 3, none⟩ = some (.int .i64 t231) ∧ w'.cell? ⟨gb237, 4, none⟩ = some (.bool t232) ∧ w'.cell? ⟨gb237, 5, none⟩ = some (.slice Ao86 t233.length co86) ∧ w'.cell? ⟨gb190, 0, none⟩ = some (.int .i64 a2_0) ∧ w'.cell? ⟨gb190, 1, none⟩ = some (.int .i64 a2_1) ∧ w'.cell? ⟨gb190, 2, none⟩ = some (.int .i64 a2_2) ∧ w'.cell? ⟨gb190, 3, none⟩ = some (.int .i64 a2_3) ∧ w'.cell? ⟨gb190, 4, none⟩ = some (.bool a2_4) ∧ w'.cell? ⟨gb190, 5, none⟩ = some (.slice A2_5 l2_5.length c2_5)) (ds := []) (bA 15 0) (by kernel_rfl) rfl rfl ⟨(blk_cell BK237.out 0).trans rfl, (blk_cell BK237.out 1).trans rfl, (blk_cell BK237.out 2).trans rfl, (blk_cell BK237.out 3).trans rfl, (blk_cell BK237.out 4).trans rfl, (blk_cell BK237.out 5).trans rfl, (blk_cell BK190.out 0).trans rfl, (blk_cell BK190.out 1).trans rfl, (blk_cell BK190.out 2).trans rfl, (blk_cell BK190.out 3).trans rfl, (blk_cell BK190.out 4).trans rfl, (blk_cell BK190.out 5).trans rfl⟩ (fun hHeld => ?_); refine with_tabW mortmainlaw06_StoreSets.tab11 mortmainlaw06_StoreSets.bits11 (fun HT_ HW_ => ?_)
          generalize w99.drew = w100 at HO_201000 HO_221000 HO235 HO245 BK189 BK190 BK200 BK220 BK237 BK247 HB hHeld ⊢
          refine pure_ (i := 0) (N := some 70) (v := ?_) (a' := ?_) (bA 15 1) rfl rfl (an_ HT_.out) (fun _ _ _ h => h) (Or.inl ⟨by rfl, ?_⟩) ?_ ?_
          rotate_left
          ·intro w'
           go_simp
           with_reducible rfl
          rotate_left
          ·simp only [Act.put, q1, q2, q3, i64_w, i32_w]
           rfl
          refine pure_ (i := 1) (N := some 71) (v := ?_) (a' := ?_) (bA 15 3) rfl rfl (an_ HT_.out) (fun _ _ _ h => h) (Or.inl ⟨by rfl, ?_⟩) ?_ ?_
          rotate_left
          ·intro w'
           go_simp
           with_reducible rfl
          rotate_left
          ·simp only [Act.put, q1, q2, q3, i64_w, i32_w]
           rfl
          refine pure_ (i := 2) (N := some 72) (v := ?_) (a' := ?_) (bA 15 7) rfl rfl (an_ HT_.out) (fun _ _ _ h => h) (Or.inl ⟨by rfl, ?_⟩) ?_ ?_
          rotate_left
          ·intro w'
           go_simp
           with_reducible rfl
          rotate_left
          ·simp only [Act.put, q1, q2, q3, i64_w, i32_w]
           rfl
          refine pure_ (i := 3) (N := some 73) (v := ?_) (a' := ?_) (bA 15 15) rfl rfl (an_ HT_.out) (fun _ _ _ h => h) (Or.inl ⟨by rfl, ?_⟩) ?_ ?_
          rotate_left
          ·intro w'
           go_simp
           with_reducible rfl
          rotate_left
          ·simp only [Act.put, q1, q2, q3, i64_w, i32_w]
           rfl
          refine pure_ (i := 4) (N := some 74) (v := ?_) (a' := ?_) (bA 15 31) rfl rfl (an_ HT_.out) (fun _ _ _ h => h) (Or.inl ⟨by rfl, ?_⟩) ?_ ?_
          rotate_left
          ·intro w'
           go_simp
           with_reducible rfl
          rotate_left
          ·simp only [Act.put, q1, q2, q3, i64_w, i32_w]
           rfl
          refine pure_ (i := 5) (N := some 75) (v := ?_) (a' := ?_) (bA 15 63) rfl rfl (an_ HT_.out) (fun _ _ _ h => h) (Or.inl ⟨by rfl, ?_⟩) ?_ ?_
          rotate_left
          ·intro w'
           go_simp
           with_reducible rfl
          rotate_left
          ·simp only [Act.put, q1, q2, q3, i64_w, i32_w]
           rfl
          refine pure_ (i := 6) (N := some 76) (v := ?_) (a' := ?_) (bA 15 127) rfl rfl (an_ HT_.out) (fun _ _ _ h => h) (Or.inl ⟨by rfl, ?_⟩) ?_ ?_
          rotate_left
          ·intro w'
           go_simp
           with_reducible rfl
          rotate_left
          ·simp only [Act.put, q1, q2, q3, i64_w, i32_w]
           rfl
          refine take_ (i := 7) (N := some 77) (v := ?_) (a' := ?_) (bA 15 255) rfl rfl (tw_ HT_.out HW_.out) (fun _ _ _ h => h) (Or.inl ⟨by rfl, ?_⟩) hHeld ?_ ?_
          rotate_left
          ·rintro w' ⟨s0, s1, s2, s3, s4, s5, s6, s7, s8, s9, s10, s11⟩
           go_simp
           with_reducible rfl
          rotate_left
          ·simp only [Act.put, q1, q2, q3, i64_w, i32_w]
           rfl
          refine take_ (i := 9) (N := some 79) (v := ?_) (a' := ?_) (bA 15 767) rfl rfl (tw_ HT_.out HW_.out) (fun _ _ _ h => h) (Or.inl ⟨by rfl, ?_⟩) hHeld ?_ ?_
          rotate_left
          ·rintro w' ⟨s0, s1, s2, s3, s4, s5, s6, s7, s8, s9, s10, s11⟩
           go_simp
           with_reducible rfl
          rotate_left
          ·simp only [Act.put, q1, q2, q3, i64_w, i32_w]
           rfl
          refine one_ (i := 8) (N := some 78) (bA 15 1023) rfl rfl (one_of HT_.out (by kernel_rfl)) (by decide) (fun K hK => ?_)
          refine goes_ Try.func20 (by kernel_rfl) rfl #[.agg #[.int .i64 t228, .int .i64 t229, .int .i64 t230, .int .i64 t231, .bool t232, .slice Ao86 t233.length co86]] (by rfl) rfl rfl mT ?_
          with_reducible refine (mortmainlaw06_obj.calls t228 t229 t230 t231 t232 (fun k_ => (k_ ≠ gb189 ∧ (k_ ≠ gb190 ∧ (k_ ≠ gb200 ∧ (k_ ≠ gb220 ∧ (k_ ≠ gb237 ∧ k_ ≠ gb247)))))) _ _ t233 t248 t249 t250 t251 t252 t253 _ ?side1 A68.out).mono ?_
          (case side1 => exact HO235.out)
          rintro e w101 ⟨v254, rfl, ho0, hb⟩
          refine ⟨_, rfl, ?_⟩
          have n0_ := Aside0.mk (Kd.V_below (by (with_reducible repeat (first | apply Kd.V_alloc | apply Kd.V_drewN | apply Kd.V_drew)); exact HO_201000.out) hb)
          have n1_ := Aside0.mk (Kd.V_below (by (with_reducible repeat (first | apply Kd.V_alloc | apply Kd.V_drewN | apply Kd.V_drew)); exact HO_221000.out) hb)
          have n2_ := Aside0.mk (Kd.V_below (by (with_reducible repeat (first | apply Kd.V_alloc | apply Kd.V_drewN | apply Kd.V_drew)); exact HO235.out) hb)
          have n3_ := Aside0.mk (Kd.V_below (by (with_reducible repeat (first | apply Kd.V_alloc | apply Kd.V_drewN | apply Kd.V_drew)); exact HO245.out) hb)
          have n4_ := Aside0.mk (Kd.V_lower (Kd.V_mono (ok' := fun k_ => k_ ≠ gb189 ∧ k_ ≠ gb190 ∧ k_ ≠ gb200 ∧ k_ ≠ gb220 ∧ k_ ≠ gb237 ∧ k_ ≠ gb247) ho0 (fun k_ hk_ => ⟨Or.elim hk_ (fun hs_ => hs_.1) (fun hn_ => (Kd.freshB (g := gb189) (o := .cells #[.slice A0_0 l0_0.length c0_0, .int .i64 a0_1, .int .i64 a0_2] 26 (0, 0)) (kT BK189.out) k_ hn_)), Or.elim hk_ (fun hs_ => hs_.2.1) (fun hn_ => (Kd.freshB (g := gb190) (o := .cells #[.int .i64 a2_0, .int .i64 a2_1, .int .i64 a2_2, .int .i64 a2_3, .bool a2_4, .slice A2_5 l2_5.length c2_5] 29 (0, 0)) (kT BK190.out) k_ hn_)), Or.elim hk_ (fun hs_ => hs_.2.2.1) (fun hn_ => (Kd.freshB (g := gb200) (o := .cells #[.slice Ao36 t194.length co36, .int .i64 t197, .int .i64 t198] 26 (0, 0)) (kT BK200.out) k_ hn_)), Or.elim hk_ (fun hs_ => hs_.2.2.2.1) (fun hn_ => (Kd.freshB (g := gb220) (o := .cells #[.slice Ao49 t214.length co49, .int .i64 t217, .int .i64 t218] 37 (0, 0)) (kT BK220.out) k_ hn_)), Or.elim hk_ (fun hs_ => hs_.2.2.2.2.1) (fun hn_ => (Kd.freshB (g := gb237) (o := .cells #[.int .i64 t228, .int .i64 t229, .int .i64 t230, .int .i64 t231, .bool t232, .slice Ao86 t233.length co86] 29 (0, 0)) (kT BK237.out) k_ hn_)), Or.elim hk_ (fun hs_ => hs_.2.2.2.2.2) (fun hn_ => (Kd.freshB (g := gb247) (o := .cells #[.int .i64 t238, .int .i64 t239, .int .i64 t240, .int .i64 t241, .bool t242, .slice Ao98 t243.length co98] 29 (0, 0)) (kT BK247.out) k_ hn_))⟩)) (below_size (by repeat (first | (with_reducible first | exact HB.out | apply below_alloc | apply pw_below_drewN | apply below_drew1 | refine below_set ?_ GE189.out | refine below_set ?_ GE190.out | refine below_set ?_ GE200.out | refine below_set ?_ GE220.out | refine below_set ?_ GE237.out | refine below_set ?_ GE247.out) | exact HB.out))))
          have n5_ := Aside0.mk (blk_below (g := gb189) (o := .cells #[.slice A0_0 l0_0.length c0_0, .int .i64 a0_1, .int .i64 a0_2] 26 (0, 0)) (kT BK189.out) hb)
          have n6_ := Aside0.mk (blk_below (g := gb190) (o := .cells #[.int .i64 a2_0, .int .i64 a2_1, .int .i64 a2_2, .int .i64 a2_3, .bool a2_4, .slice A2_5 l2_5.length c2_5] 29 (0, 0)) (kT BK190.out) hb)
          have n7_ := Aside0.mk (blk_below (g := gb200) (o := .cells #[.slice Ao36 t194.length co36, .int .i64 t197, .int .i64 t198] 26 (0, 0)) (kT BK200.out) hb)
          have n8_ := Aside0.mk (blk_below (g := gb220) (o := .cells #[.slice Ao49 t214.length co49, .int .i64 t217, .int .i64 t218] 37 (0, 0)) (kT BK220.out) hb)
          have n9_ := Aside0.mk (blk_below (g := gb237) (o := .cells #[.int .i64 t228, .int .i64 t229, .int .i64 t230, .int .i64 t231, .bool t232, .slice Ao86 t233.length co86] 29 (0, 0)) (kT BK237.out) hb)
          have n10_ := Aside0.mk (blk_below (g := gb247) (o := .cells #[.int .i64 t238, .int .i64 t239, .int .i64 t240, .int .i64 t241, .bool t242, .slice Ao98 t243.length co98] 29 (0, 0)) (kT BK247.out) hb)
          have n11_ := Aside0.mk (below_step (by repeat (first | (with_reducible first | exact HB.out | apply below_alloc | apply pw_below_drewN | apply below_drew1 | refine below_set ?_ GE189.out | refine below_set ?_ GE190.out | refine below_set ?_ GE200.out | refine below_set ?_ GE220.out | refine below_set ?_ GE237.out | refine below_set ?_ GE247.out) | exact HB.out)) hb)
          clear HO_201000
          clear HO_221000
          clear HO235
          clear HO245
          clear BK189
          clear BK190
          clear BK200
          clear BK220
          clear BK237
          clear BK247
          clear HB
          have HO_201000 := n0_
          have HO_221000 := n1_
          have HO235 := n2_
          have HO245 := n3_
          have HO255 := n4_
          have BK189 := n5_
          have BK190 := n6_
          have BK200 := n7_
          have BK220 := n8_
          have BK237 := n9_
          have BK247 := n10_
          have HB := n11_
          clear n0_ n1_ n2_ n3_ n4_ n5_ n6_ n7_ n8_ n9_ n10_ n11_
          (try clear hb)
          (try clear hb2)
          (try clear hk)
          (try clear hi)
          (try clear ho0)
          refine hK.out _ _ ⟨(blk_cell BK237.out 0).trans rfl, (blk_cell BK237.out 1).trans rfl, (blk_cell BK237.out 2).trans rfl, (blk_cell BK237.out 3).trans rfl, (blk_cell BK237.out 4).trans rfl, (blk_cell BK237.out 5).trans rfl, (blk_cell BK190.out 0).trans rfl, (blk_cell BK190.out 1).trans rfl, (blk_cell BK190.out 2).trans rfl, (blk_cell BK190.out 3).trans rfl, (blk_cell BK190.out 4).trans rfl, (blk_cell BK190.out 5).trans rfl⟩ (fun hHeld => ?_)
          clear hK K
          refine norm_ (a' := ?_) ?_ ?_
          rotate_left
          ·show Act.put _ (some 78) _ = _
           simp only [Act.put, q1, q2, q3, i64_w, i32_w]
           rfl
          refine one_ (i := 10) (N := some 80) (bA 15 2047) rfl rfl (one_of HT_.out (by kernel_rfl)) (by decide) (fun K hK => ?_)
          refine goes_ Try.func20 (by kernel_rfl) rfl #[.agg #[.int .i64 a2_0, .int .i64 a2_1, .int .i64 a2_2, .int .i64 a2_3, .bool a2_4, .slice A2_5 l2_5.length c2_5]] (by rfl) rfl rfl mT ?_
          with_reducible refine (mortmainlaw06_obj.calls a2_0 a2_1 a2_2 a2_3 a2_4 (fun k_ => k_ < w.heap.size) _ _ l2_5 t256 t257 t258 t259 t260 t261 _ ?side1 A69.out).mono ?_
          (case side1 => exact Kd.V_mk HC2_5.out (Kd.F_below (Kd.C_F (Kd.heap_int .i64) HR2_5.out) (by repeat (first | (with_reducible first | exact HB.out | apply below_alloc | apply pw_below_drewN | apply below_drew1 | refine below_set ?_ GE189.out | refine below_set ?_ GE190.out | refine below_set ?_ GE200.out | refine below_set ?_ GE220.out | refine below_set ?_ GE237.out | refine below_set ?_ GE247.out) | exact HB.out))))
          rintro e w102 ⟨v262, rfl, ho0, hb⟩
          refine ⟨_, rfl, ?_⟩
          have n0_ := Aside0.mk (Kd.V_below (by (with_reducible repeat (first | apply Kd.V_alloc | apply Kd.V_drewN | apply Kd.V_drew)); exact HO_201000.out) hb)
          have n1_ := Aside0.mk (Kd.V_below (by (with_reducible repeat (first | apply Kd.V_alloc | apply Kd.V_drewN | apply Kd.V_drew)); exact HO_221000.out) hb)
          have n2_ := Aside0.mk (Kd.V_below (by (with_reducible repeat (first | apply Kd.V_alloc | apply Kd.V_drewN | apply Kd.V_drew)); exact HO235.out) hb)
          have n3_ := Aside0.mk (Kd.V_below (by (with_reducible repeat (first | apply Kd.V_alloc | apply Kd.V_drewN | apply Kd.V_drew)); exact HO245.out) hb)
          have n4_ := Aside0.mk (Kd.V_below (by (with_reducible repeat (first | apply Kd.V_alloc | apply Kd.V_drewN | apply Kd.V_drew)); exact HO255.out) hb)
          have n5_ := Aside0.mk (Kd.V_lower (Kd.V_mono (ok' := fun k_ => k_ ≠ gb189 ∧ k_ ≠ gb190 ∧ k_ ≠ gb200 ∧ k_ ≠ gb220 ∧ k_ ≠ gb237 ∧ k_ ≠ gb247) ho0 (fun k_ hk_ => ⟨Or.elim hk_ (fun hs_ => fun e_ => Nat.not_le.2 hs_ (by rw [e_]; exact GW189.out)) (fun hn_ => (Kd.freshB (g := gb189) (o := .cells #[.slice A0_0 l0_0.length c0_0, .int .i64 a0_1, .int .i64 a0_2] 26 (0, 0)) (kT BK189.out) k_ hn_)), Or.elim hk_ (fun hs_ => fun e_ => Nat.not_le.2 hs_ (by rw [e_]; exact GW190.out)) (fun hn_ => (Kd.freshB (g := gb190) (o := .cells #[.int .i64 a2_0, .int .i64 a2_1, .int .i64 a2_2, .int .i64 a2_3, .bool a2_4, .slice A2_5 l2_5.length c2_5] 29 (0, 0)) (kT BK190.out) k_ hn_)), Or.elim hk_ (fun hs_ => fun e_ => Nat.not_le.2 hs_ (by rw [e_]; exact GW200.out)) (fun hn_ => (Kd.freshB (g := gb200) (o := .cells #[.slice Ao36 t194.length co36, .int .i64 t197, .int .i64 t198] 26 (0, 0)) (kT BK200.out) k_ hn_)), Or.elim hk_ (fun hs_ => fun e_ => Nat.not_le.2 hs_ (by rw [e_]; exact GW220.out)) (fun hn_ => (Kd.freshB (g := gb220) (o := .cells #[.slice Ao49 t214.length co49, .int .i64 t217, .int .i64 t218] 37 (0, 0)) (kT BK220.out) k_ hn_)), Or.elim hk_ (fun hs_ => fun e_ => Nat.not_le.2 hs_ (by rw [e_]; exact GW237.out)) (fun hn_ => (Kd.freshB (g := gb237) (o := .cells #[.int .i64 t228, .int .i64 t229, .int .i64 t230, .int .i64 t231, .bool t232, .slice Ao86 t233.length co86] 29 (0, 0)) (kT BK237.out) k_ hn_)), Or.elim hk_ (fun hs_ => fun e_ => Nat.not_le.2 hs_ (by rw [e_]; exact GW247.out)) (fun hn_ => (Kd.freshB (g := gb247) (o := .cells #[.int .i64 t238, .int .i64 t239, .int .i64 t240, .int .i64 t241, .bool t242, .slice Ao98 t243.length co98] 29 (0, 0)) (kT BK247.out) k_ hn_))⟩)) (below_size (by repeat (first | (with_reducible first | exact HB.out | apply below_alloc | apply pw_below_drewN | apply below_drew1 | refine below_set ?_ GE189.out | refine below_set ?_ GE190.out | refine below_set ?_ GE200.out | refine below_set ?_ GE220.out | refine below_set ?_ GE237.out | refine below_set ?_ GE247.out) | exact HB.out))))
          have n6_ := Aside0.mk (blk_below (g := gb189) (o := .cells #[.slice A0_0 l0_0.length c0_0, .int .i64 a0_1, .int .i64 a0_2] 26 (0, 0)) (kT BK189.out) hb)
          have n7_ := Aside0.mk (blk_below (g := gb190) (o := .cells #[.int .i64 a2_0, .int .i64 a2_1, .int .i64 a2_2, .int .i64 a2_3, .bool a2_4, .slice A2_5 l2_5.length c2_5] 29 (0, 0)) (kT BK190.out) hb)
          have n8_ := Aside0.mk (blk_below (g := gb200) (o := .cells #[.slice Ao36 t194.length co36, .int .i64 t197, .int .i64 t198] 26 (0, 0)) (kT BK200.out) hb)
          have n9_ := Aside0.mk (blk_below (g := gb220) (o := .cells #[.slice Ao49 t214.length co49, .int .i64 t217, .int .i64 t218] 37 (0, 0)) (kT BK220.out) hb)
          have n10_ := Aside0.mk (blk_below (g := gb237) (o := .cells #[.int .i64 t228, .int .i64 t229, .int .i64 t230, .int .i64 t231, .bool t232, .slice Ao86 t233.length co86] 29 (0, 0)) (kT BK237.out) hb)
          have n11_ := Aside0.mk (blk_below (g := gb247) (o := .cells #[.int .i64 t238, .int .i64 t239, .int .i64 t240, .int .i64 t241, .bool t242, .slice Ao98 t243.length co98] 29 (0, 0)) (kT BK247.out) hb)
          have n12_ := Aside0.mk (below_step (by repeat (first | (with_reducible first | exact HB.out | apply below_alloc | apply pw_below_drewN | apply below_drew1 | refine below_set ?_ GE189.out | refine below_set ?_ GE190.out | refine below_set ?_ GE200.out | refine below_set ?_ GE220.out | refine below_set ?_ GE237.out | refine below_set ?_ GE247.out) | exact HB.out)) hb)
          clear HO_201000
          clear HO_221000
          clear HO235
          clear HO245
          clear HO255
          clear BK189
          clear BK190
          clear BK200
          clear BK220
          clear BK237
          clear BK247
          clear HB
          have HO_201000 := n0_
          have HO_221000 := n1_
          have HO235 := n2_
          have HO245 := n3_
          have HO255 := n4_
          have HO263 := n5_
          have BK189 := n6_
          have BK190 := n7_
          have BK200 := n8_
          have BK220 := n9_
          have BK237 := n10_
          have BK247 := n11_
          have HB := n12_
          clear n0_ n1_ n2_ n3_ n4_ n5_ n6_ n7_ n8_ n9_ n10_ n11_ n12_
          (try clear hb)
          (try clear hb2)
          (try clear hk)
          (try clear hi)
          (try clear ho0)
          obtain ⟨Ao103, co103, eo103⟩ := Kd.V_slice HO255.out
          (first | subst eo103 | (injection eo103 with f1_ f2_ f3_; have f4_ := f1_.symm; have f5_ := f3_.symm; clear f1_ f2_ f3_; subst f4_; subst f5_))
          obtain ⟨Ao104, co104, eo104⟩ := Kd.V_slice HO263.out
          (first | subst eo104 | (injection eo104 with f1_ f2_ f3_; have f4_ := f1_.symm; have f5_ := f3_.symm; clear f1_ f2_ f3_; subst f4_; subst f5_))
          refine hK.out _ _ ⟨(blk_cell BK237.out 0).trans rfl, (blk_cell BK237.out 1).trans rfl, (blk_cell BK237.out 2).trans rfl, (blk_cell BK237.out 3).trans rfl, (blk_cell BK237.out 4).trans rfl, (blk_cell BK237.out 5).trans rfl, (blk_cell BK190.out 0).trans rfl, (blk_cell BK190.out 1).trans rfl, (blk_cell BK190.out 2).trans rfl, (blk_cell BK190.out 3).trans rfl, (blk_cell BK190.out 4).trans rfl, (blk_cell BK190.out 5).trans rfl⟩ (fun hHeld => ?_)
          clear hK K
          refine norm_ (a' := ?_) ?_ ?_
          rotate_left
          ·show Act.put _ (some 80) _ = _
           simp only [Act.put, q1, q2, q3, i64_w, i32_w]
           rfl
          refine one_ (i := 11) (N := some 81) (bA 15 4095) rfl rfl (one_of HT_.out (by kernel_rfl)) (by decide) (fun K hK => ?_)
          refine goes_ Try.func24 (by kernel_rfl) rfl #[.agg #[.int .i64 t248, .int .i64 t249, .int .i64 t250, .int .i64 t251, .bool t252, .slice Ao103 t253.length co103], .agg #[.int .i64 t256, .int .i64 t257, .int .i64 t258, .int .i64 t259, .bool t260, .slice Ao104 t261.length co104]] (by rfl) rfl rfl mT ?_
          with_reducible refine (mortmainref06_Alike.calls kj29 t248 t249 t250 t251 t252 _ _ t253 t256 t257 t258 t259 t260 _ _ t261 t264 _ ?side1 ?side2 ?side3 ?side4 A70.out).mono ?_
          (case side1 => repeat (first | exact (Kd.V_reads' HO255.out).2.2 | (with_reducible refine Kd.C_alloc ?_ _) | (with_reducible refine Kd.C_drewN ?_ _) | (with_reducible refine Kd.C_drew ?_)))
          (case side2 => exact (Kd.V_reads' HO255.out).2.1)
          (case side3 => repeat (first | exact (Kd.V_reads' HO263.out).2.2 | (with_reducible refine Kd.C_alloc ?_ _) | (with_reducible refine Kd.C_drewN ?_ _) | (with_reducible refine Kd.C_drew ?_)))
          (case side4 => exact (Kd.V_reads' HO263.out).2.1)
          rintro e w105 ⟨rfl, hb⟩
          refine ⟨_, rfl, ?_⟩
          have n0_ := Aside0.mk (Kd.V_below (by (with_reducible repeat (first | apply Kd.V_alloc | apply Kd.V_drewN | apply Kd.V_drew)); exact HO_201000.out) hb)
          have n1_ := Aside0.mk (Kd.V_below (by (with_reducible repeat (first | apply Kd.V_alloc | apply Kd.V_drewN | apply Kd.V_drew)); exact HO_221000.out) hb)
          have n2_ := Aside0.mk (Kd.V_below (by (with_reducible repeat (first | apply Kd.V_alloc | apply Kd.V_drewN | apply Kd.V_drew)); exact HO235.out) hb)
          have n3_ := Aside0.mk (Kd.V_below (by (with_reducible repeat (first | apply Kd.V_alloc | apply Kd.V_drewN | apply Kd.V_drew)); exact HO245.out) hb)
          have n4_ := Aside0.mk (Kd.V_below (by (with_reducible repeat (first | apply Kd.V_alloc | apply Kd.V_drewN | apply Kd.V_drew)); exact HO255.out) hb)
          have n5_ := Aside0.mk (Kd.V_below (by (with_reducible repeat (first | apply Kd.V_alloc | apply Kd.V_drewN | apply Kd.V_drew)); exact HO263.out) hb)
          have n6_ := Aside0.mk (blk_below (g := gb189) (o := .cells #[.slice A0_0 l0_0.length c0_0, .int .i64 a0_1, .int .i64 a0_2] 26 (0, 0)) (kT BK189.out) hb)
          have n7_ := Aside0.mk (blk_below (g := gb190) (o := .cells #[.int .i64 a2_0, .int .i64 a2_1, .int .i64 a2_2, .int .i64 a2_3, .bool a2_4, .slice A2_5 l2_5.length c2_5] 29 (0, 0)) (kT BK190.out) hb)
          have n8_ := Aside0.mk (blk_below (g := gb200) (o := .cells #[.slice Ao36 t194.length co36, .int .i64 t197, .int .i64 t198] 26 (0, 0)) (kT BK200.out) hb)
          have n9_ := Aside0.mk (blk_below (g := gb220) (o := .cells #[.slice Ao49 t214.length co49, .int .i64 t217, .int .i64 t218] 37 (0, 0)) (kT BK220.out) hb)
          have n10_ := Aside0.mk (blk_below (g := gb237) (o := .cells #[.int .i64 t228, .int .i64 t229, .int .i64 t230, .int .i64 t231, .bool t232, .slice Ao86 t233.length co86] 29 (0, 0)) (kT BK237.out) hb)
          have n11_ := Aside0.mk (blk_below (g := gb247) (o := .cells #[.int .i64 t238, .int .i64 t239, .int .i64 t240, .int .i64 t241, .bool t242, .slice Ao98 t243.length co98] 29 (0, 0)) (kT BK247.out) hb)
          have n12_ := Aside0.mk (below_step (by repeat (first | (with_reducible first | exact HB.out | apply below_alloc | apply pw_below_drewN | apply below_drew1 | refine below_set ?_ GE189.out | refine below_set ?_ GE190.out | refine below_set ?_ GE200.out | refine below_set ?_ GE220.out | refine below_set ?_ GE237.out | refine below_set ?_ GE247.out) | exact HB.out)) hb)
          clear HO_201000
          clear HO_221000
          clear HO235
          clear HO245
          clear HO255
          clear HO263
          clear BK189
          clear BK190
          clear BK200
          clear BK220
          clear BK237
          clear BK247
          clear HB
          have HO_201000 := n0_
          have HO_221000 := n1_
          have HO235 := n2_
          have HO245 := n3_
          have HO255 := n4_
          have HO263 := n5_
          have BK189 := n6_
          have BK190 := n7_
          have BK200 := n8_
          have BK220 := n9_
          have BK237 := n10_
          have BK247 := n11_
          have HB := n12_
          clear n0_ n1_ n2_ n3_ n4_ n5_ n6_ n7_ n8_ n9_ n10_ n11_ n12_
          (try clear hb)
          (try clear hb2)
          (try clear hk)
          (try clear hi)
          refine hK.out _ _ ⟨(blk_cell BK237.out 0).trans rfl, (blk_cell BK237.out 1).trans rfl, (blk_cell BK237.out 2).trans rfl, (blk_cell BK237.out 3).trans rfl, (blk_cell BK237.out 4).trans rfl, (blk_cell BK237.out 5).trans rfl, (blk_cell BK190.out 0).trans rfl, (blk_cell BK190.out 1).trans rfl, (blk_cell BK190.out 2).trans rfl, (blk_cell BK190.out 3).trans rfl, (blk_cell BK190.out 4).trans rfl, (blk_cell BK190.out 5).trans rfl⟩ (fun hHeld => ?_)
          clear hK K
          refine norm_ (a' := ?_) ?_ ?_
          rotate_left
          ·show Act.put _ (some 81) _ = _
           simp only [Act.put, q1, q2, q3, i64_w, i32_w]
           rfl
          refine pure_ (i := 12) (N := some 82) (v := ?_) (a' := ?_) (bA 15 8191) rfl rfl (an_ HT_.out) (fun _ _ _ h => h) (Or.inl ⟨by rfl, ?_⟩) ?_ ?_
          rotate_left
          ·intro w'
           go_simp
           with_reducible rfl
          rotate_left
          ·simp only [Act.put, q1, q2, q3, i64_w, i32_w]
           rfl
          refine pure_ (i := 13) (N := some 83) (v := ?_) (a' := ?_) (bA 15 16383) rfl rfl (an_ HT_.out) (fun _ _ _ h => h) (Or.inl ⟨by rfl, ?_⟩) ?_ ?_
          rotate_left
          ·intro w'
           go_simp
           with_reducible rfl
          rotate_left
          ·simp only [Act.put, q1, q2, q3, i64_w, i32_w]
           rfl
          refine pure_ (i := 14) (N := some 6) (v := ?_) (a' := ?_) (bA 15 32767) rfl rfl (an_ HT_.out) (fun _ _ _ h => h) (Or.inl ⟨by rfl, ?_⟩) ?_ ?_
          rotate_left
          ·intro w'
           go_simp
           with_reducible rfl
          rotate_left
          ·simp only [Act.put, q1, q2, q3, i64_w, i32_w]
           rfl
          refine done_ (done_of HT_.out (by kernel_rfl)) ?_
          try go_wp2
          go_ret
          exact ⟨by first | rfl | (simp [errW_none, errW_some] <;> rfl) | (simp [*, errW_none, errW_some] <;> rfl), by repeat (first | (with_reducible first | exact HB.out | apply below_alloc | apply pw_below_drewN | apply below_drew1 | refine below_set ?_ GE189.out | refine below_set ?_ GE190.out | refine below_set ?_ GE200.out | refine below_set ?_ GE220.out | refine below_set ?_ GE237.out | refine below_set ?_ GE247.out) | exact HB.out)⟩
         ·rw [if_neg c67] at H
          have c67b0 : (t236 == 0) = false := beq_eq_false_iff_ne.mpr c67
          have c67b1 : (t236 != 0) = true := bne_iff_ne.mpr c67
          obtain rfl := Option.some.inj H
          have hnb106 := NB220_189.out
          have hnc106 := NB189_220.out
          have hnb107 := NB220_190.out
          have hnc107 := NB190_220.out
          have hnb108 := NB220_200.out
          have hnc108 := NB200_220.out
          have hcz109_0 : wc.cell? ⟨gb220, 0, none⟩ = some (.slice Ao49 t214.length co49) := (blk_cell BK220.out 0).trans rfl
          have hcz109_1 : wc.cell? ⟨gb220, 1, none⟩ = some (.int .i64 t217) := (blk_cell BK220.out 1).trans rfl
          have hcz109_2 : wc.cell? ⟨gb220, 2, none⟩ = some (.int .i64 t218) := (blk_cell BK220.out 2).trans rfl
          have hfz109_0 := blk_frozen BK220.out 0
          have hfz109_1 := blk_frozen BK220.out 1
          have hfz109_2 := blk_frozen BK220.out 2
          try go_wp2_with (first | ((with_reducible refine gate_callee (f := 22) rfl ?_); refine goesL_ (some 56) rfl rfl Try.func22 (by kernel_rfl) rfl #[.agg #[.slice Ao49 t214.length co49, .int .i64 t217, .int .i64 t218]] rfl mT ?_; (with_reducible refine (mortmainref06_Right.calls kj29 _ _ t214 t217 t218 true _ ?side1 ?side2 A62.out).mono ?_); (case side1 => repeat (first | exact (Kd.V_reads' HO_221000.out).2.2 | (with_reducible refine Kd.C_alloc ?_ _) | (with_reducible refine Kd.C_drewN ?_ _) | (with_reducible refine Kd.C_drew ?_))); (case side2 => exact (Kd.V_reads' HO_221000.out).2.1); rintro e w110 ⟨rfl, hb⟩; refine ⟨_, rfl, ?_⟩; have n0_ := Aside0.mk (Kd.V_below (by (with_reducible repeat (first | apply Kd.V_alloc | apply Kd.V_drewN | apply Kd.V_drew)); exact HO_201000.out) hb); have n1_ := Aside0.mk (Kd.V_below (by (with_reducible repeat (first | apply Kd.V_alloc | apply Kd.V_drewN | apply Kd.V_drew)); exact HO_221000.out) hb); have n2_ := Aside0.mk (blk_below (g := gb189) (o := .cells #[.slice A0_0 l0_0.length c0_0, .int .i64 a0_1, .int .i64 a0_2] 26 (0, 0)) (kT BK189.out) hb); have n3_ := Aside0.mk (blk_below (g := gb190) (o := .cells #[.int .i64 a2_0, .int .i64 a2_1, .int .i64 a2_2, .int .i64 a2_3, .bool a2_4, .slice A2_5 l2_5.length c2_5] 29 (0, 0)) (kT BK190.out) hb); have n4_ := Aside0.mk (blk_below (g := gb200) (o := .cells #[.slice Ao36 t194.length co36, .int .i64 t197, .int .i64 t198] 26 (0, 0)) (kT BK200.out) hb); have n5_ := Aside0.mk (blk_below (g := gb220) (o := .cells #[.slice Ao49 t214.length co49, .int .i64 t217, .int .i64 t218] 37 (0, 0)) (kT BK220.out) hb); have n6_ := Aside0.mk (below_step (by repeat (first | (with_reducible first | exact HB.out | apply below_alloc | apply pw_below_drewN | apply below_drew1 | refine below_set ?_ GE189.out | refine below_set ?_ GE190.out | refine below_set ?_ GE200.out | refine below_set ?_ GE220.out) | exact HB.out)) hb); clear HO_201000; clear HO_221000; clear BK189; clear BK190; clear BK200; clear BK220; clear HB; have HO_201000 := n0_; have HO_221000 := n1_; have BK189 := n2_; have BK190 := n3_; have BK200 := n4_; have BK220 := n5_; have HB := n6_; clear n0_ n1_ n2_ n3_ n4_ n5_ n6_; (try clear hb); (try clear hb2); (try clear hk); (try clear hi); have hnb111 := NB200_189.out; have hnc111 := NB189_200.out; have hnb112 := NB200_190.out; have hnc112 := NB190_200.out; have hcz113_0 : w110.cell? ⟨gb200, 0, none⟩ = some (.slice Ao36 t194.length co36) := (blk_cell BK200.out 0).trans rfl; have hcz113_1 : w110.cell? ⟨gb200, 1, none⟩ = some (.int .i64 t197) := (blk_cell BK200.out 1).trans rfl; have hcz113_2 : w110.cell? ⟨gb200, 2, none⟩ = some (.int .i64 t198) := (blk_cell BK200.out 2).trans rfl; have hfz113_0 := blk_frozen BK200.out 0; have hfz113_1 := blk_frozen BK200.out 1; have hfz113_2 := blk_frozen BK200.out 2) | ((with_reducible refine gate_callee (f := 23) rfl ?_); refine goesL_ (some 61) rfl rfl Try.func23 (by kernel_rfl) rfl #[.agg #[.slice Ao36 t194.length co36, .int .i64 t197, .int .i64 t198], .int .i64 a1] rfl mT ?_; (with_reducible refine (store_Get.calls (fun k_ => (k_ ≠ gb189 ∧ (k_ ≠ gb190 ∧ (k_ ≠ gb200 ∧ k_ ≠ gb220)))) _ _ t194 t197 t198 a1 t228 t229 t230 t231 t232 t233 t236 _ ?side1 A64.out).mono ?_); (case side1 => exact HO_201000.out); rintro e w114 ⟨v234, rfl, ho0, hb⟩; refine ⟨_, rfl, ?_⟩; have n0_ := Aside0.mk (Kd.V_below (by (with_reducible repeat (first | apply Kd.V_alloc | apply Kd.V_drewN | apply Kd.V_drew)); exact HO_201000.out) hb); have n1_ := Aside0.mk (Kd.V_below (by (with_reducible repeat (first | apply Kd.V_alloc | apply Kd.V_drewN | apply Kd.V_drew)); exact HO_221000.out) hb); have n2_ := Aside0.mk (Kd.V_lower (Kd.V_mono (ok' := fun k_ => k_ ≠ gb189 ∧ k_ ≠ gb190 ∧ k_ ≠ gb200 ∧ k_ ≠ gb220) ho0 (fun k_ hk_ => ⟨Or.elim hk_ (fun hs_ => hs_.1) (fun hn_ => (Kd.freshB (g := gb189) (o := .cells #[.slice A0_0 l0_0.length c0_0, .int .i64 a0_1, .int .i64 a0_2] 26 (0, 0)) (kT BK189.out) k_ hn_)), Or.elim hk_ (fun hs_ => hs_.2.1) (fun hn_ => (Kd.freshB (g := gb190) (o := .cells #[.int .i64 a2_0, .int .i64 a2_1, .int .i64 a2_2, .int .i64 a2_3, .bool a2_4, .slice A2_5 l2_5.length c2_5] 29 (0, 0)) (kT BK190.out) k_ hn_)), Or.elim hk_ (fun hs_ => hs_.2.2.1) (fun hn_ => (Kd.freshB (g := gb200) (o := .cells #[.slice Ao36 t194.length co36, .int .i64 t197, .int .i64 t198] 26 (0, 0)) (kT BK200.out) k_ hn_)), Or.elim hk_ (fun hs_ => hs_.2.2.2) (fun hn_ => (Kd.freshB (g := gb220) (o := .cells #[.slice Ao49 t214.length co49, .int .i64 t217, .int .i64 t218] 37 (0, 0)) (kT BK220.out) k_ hn_))⟩)) (below_size (by repeat (first | (with_reducible first | exact HB.out | apply below_alloc | apply pw_below_drewN | apply below_drew1 | refine below_set ?_ GE189.out | refine below_set ?_ GE190.out | refine below_set ?_ GE200.out | refine below_set ?_ GE220.out) | exact HB.out)))); have n3_ := Aside0.mk (blk_below (g := gb189) (o := .cells #[.slice A0_0 l0_0.length c0_0, .int .i64 a0_1, .int .i64 a0_2] 26 (0, 0)) (kT BK189.out) hb); have n4_ := Aside0.mk (blk_below (g := gb190) (o := .cells #[.int .i64 a2_0, .int .i64 a2_1, .int .i64 a2_2, .int .i64 a2_3, .bool a2_4, .slice A2_5 l2_5.length c2_5] 29 (0, 0)) (kT BK190.out) hb); have n5_ := Aside0.mk (blk_below (g := gb200) (o := .cells #[.slice Ao36 t194.length co36, .int .i64 t197, .int .i64 t198] 26 (0, 0)) (kT BK200.out) hb); have n6_ := Aside0.mk (blk_below (g := gb220) (o := .cells #[.slice Ao49 t214.length co49, .int .i64 t217, .int .i64 t218] 37 (0, 0)) (kT BK220.out) hb); have n7_ := Aside0.mk (below_step (by repeat (first | (with_reducible first | exact HB.out | apply below_alloc | apply pw_below_drewN | apply below_drew1 | refine below_set ?_ GE189.out | refine below_set ?_ GE190.out | refine below_set ?_ GE200.out | refine below_set ?_ GE220.out) | exact HB.out)) hb); clear HO_201000; clear HO_221000; clear BK189; clear BK190; clear BK200; clear BK220; clear HB; have HO_201000 := n0_; have HO_221000 := n1_; have HO235 := n2_; have BK189 := n3_; have BK190 := n4_; have BK200 := n5_; have BK220 := n6_; have HB := n7_; clear n0_ n1_ n2_ n3_ n4_ n5_ n6_ n7_; (try clear hb); (try clear hb2); (try clear hk); (try clear hi); (try clear ho0)) | ((with_reducible refine gate_dst (N := 11) rfl ?_); (try (refine gate_guard (by rfl) ?_; dsimp only)); refine box_event ?hg (N := 11) ?hd (cs := #[.int .i64 0, .int .i64 0, .int .i64 0, .int .i64 0, .bool false, .slice none 0 0]) (t := 29) ?hr ?_; (case hd => rfl); (case hg => rfl); (case hr => first | (go_simp; done) | (go_simp; rfl)); intro gb237 hg w115 hbox hb; have n0_ := Aside0.mk (Kd.V_below (Kd.V_elderB (by (with_reducible repeat (first | apply Kd.V_alloc | apply Kd.V_drewN | apply Kd.V_drew)); exact HO_201000.out) gb237 (Nat.le_of_eq hg.symm)) hb); have n1_ := Aside0.mk (Kd.V_below (Kd.V_elderB (by (with_reducible repeat (first | apply Kd.V_alloc | apply Kd.V_drewN | apply Kd.V_drew)); exact HO_221000.out) gb237 (Nat.le_of_eq hg.symm)) hb); have n2_ := Aside0.mk (Kd.V_below (Kd.V_elderB (by (with_reducible repeat (first | apply Kd.V_alloc | apply Kd.V_drewN | apply Kd.V_drew)); exact HO235.out) gb237 (Nat.le_of_eq hg.symm)) hb); have n3_ := Aside0.mk (blk_below (g := gb189) (o := .cells #[.slice A0_0 l0_0.length c0_0, .int .i64 a0_1, .int .i64 a0_2] 26 (0, 0)) (kT BK189.out) hb); have n4_ := Aside0.mk (blk_below (g := gb190) (o := .cells #[.int .i64 a2_0, .int .i64 a2_1, .int .i64 a2_2, .int .i64 a2_3, .bool a2_4, .slice A2_5 l2_5.length c2_5] 29 (0, 0)) (kT BK190.out) hb); have n5_ := Aside0.mk (blk_below (g := gb200) (o := .cells #[.slice Ao36 t194.length co36, .int .i64 t197, .int .i64 t198] 26 (0, 0)) (kT BK200.out) hb); have n6_ := Aside0.mk (blk_below (g := gb220) (o := .cells #[.slice Ao49 t214.length co49, .int .i64 t217, .int .i64 t218] 37 (0, 0)) (kT BK220.out) hb); have n7_ := Aside0.mk (below_step (by repeat (first | (with_reducible first | exact HB.out | apply below_alloc | apply pw_below_drewN | apply below_drew1 | refine below_set ?_ GE189.out | refine below_set ?_ GE190.out | refine below_set ?_ GE200.out | refine below_set ?_ GE220.out) | exact HB.out)) hb); have n8_ := Aside0.mk (hbox); have n9_ := Aside0.mk ((by rw [hg]; exact (below_size (by repeat (first | (with_reducible first | exact HB.out | apply below_alloc | apply pw_below_drewN | apply below_drew1 | refine below_set ?_ GE189.out | refine below_set ?_ GE190.out | refine below_set ?_ GE200.out | refine below_set ?_ GE220.out) | exact HB.out))) : w.heap.size ≤ gb237)); have n10_ := Aside0.mk ((by rw [hg]; exact (below_size (by repeat (first | (with_reducible first | exact HB.out | apply below_alloc | apply pw_below_drewN | apply below_drew1 | refine below_set ?_ GE189.out | refine below_set ?_ GE190.out | refine below_set ?_ GE200.out | refine below_set ?_ GE220.out) | exact HB.out))) : w.heap.size ≤ gb237)); have n11_ := Aside0.mk ((by rw [hg]; exact Nat.ne_of_lt (blk_lt (g := gb189) (o := .cells #[.slice A0_0 l0_0.length c0_0, .int .i64 a0_1, .int .i64 a0_2] 26 (0, 0)) (kT BK189.out)) : gb189 ≠ gb237)); have n12_ := Aside0.mk ((by rw [hg]; exact Nat.ne_of_gt (blk_lt (g := gb189) (o := .cells #[.slice A0_0 l0_0.length c0_0, .int .i64 a0_1, .int .i64 a0_2] 26 (0, 0)) (kT BK189.out)) : gb237 ≠ gb189)); have n13_ := Aside0.mk ((by rw [hg]; exact Nat.ne_of_lt (blk_lt (g := gb190) (o := .cells #[.int .i64 a2_0, .int .i64 a2_1, .int .i64 a2_2, .int .i64 a2_3, .bool a2_4, .slice A2_5 l2_5.length c2_5] 29 (0, 0)) (kT BK190.out)) : gb190 ≠ gb237)); have n14_ := Aside0.mk ((by rw [hg]; exact Nat.ne_of_gt (blk_lt (g := gb190) (o := .cells #[.int .i64 a2_0, .int .i64 a2_1, .int .i64 a2_2, .int .i64 a2_3, .bool a2_4, .slice A2_5 l2_5.length c2_5] 29 (0, 0)) (kT BK190.out)) : gb237 ≠ gb190)); have n15_ := Aside0.mk ((by rw [hg]; exact Nat.ne_of_lt (blk_lt (g := gb200) (o := .cells #[.slice Ao36 t194.length co36, .int .i64 t197, .int .i64 t198] 26 (0, 0)) (kT BK200.out)) : gb200 ≠ gb237)); have n16_ := Aside0.mk ((by rw [hg]; exact Nat.ne_of_gt (blk_lt (g := gb200) (o := .cells #[.slice Ao36 t194.length co36, .int .i64 t197, .int .i64 t198] 26 (0, 0)) (kT BK200.out)) : gb237 ≠ gb200)); have n17_ := Aside0.mk ((by rw [hg]; exact Nat.ne_of_lt (blk_lt (g := gb220) (o := .cells #[.slice Ao49 t214.length co49, .int .i64 t217, .int .i64 t218] 37 (0, 0)) (kT BK220.out)) : gb220 ≠ gb237)); have n18_ := Aside0.mk ((by rw [hg]; exact Nat.ne_of_gt (blk_lt (g := gb220) (o := .cells #[.slice Ao49 t214.length co49, .int .i64 t217, .int .i64 t218] 37 (0, 0)) (kT BK220.out)) : gb237 ≠ gb220)); clear HO_201000; clear HO_221000; clear HO235; clear BK189; clear BK190; clear BK200; clear BK220; clear HB; have HO_201000 := n0_; have HO_221000 := n1_; have HO235 := n2_; have BK189 := n3_; have BK190 := n4_; have BK200 := n5_; have BK220 := n6_; have HB := n7_; have BK237 := n8_; have GW237 := n9_; have GE237 := n10_; have NB189_237 := n11_; have NB237_189 := n12_; have NB190_237 := n13_; have NB237_190 := n14_; have NB200_237 := n15_; have NB237_200 := n16_; have NB220_237 := n17_; have NB237_220 := n18_; clear n0_ n1_ n2_ n3_ n4_ n5_ n6_ n7_ n8_ n9_ n10_ n11_ n12_ n13_ n14_ n15_ n16_ n17_ n18_; clear hb hbox hg; have hnb116 := NB237_189.out; have hnc116 := NB189_237.out; have hnb117 := NB237_190.out; have hnc117 := NB190_237.out; have hnb118 := NB237_200.out; have hnc118 := NB200_237.out; have hnb119 := NB237_220.out; have hnc119 := NB220_237.out; have hcz120_0 : w115.cell? ⟨gb237, 0, none⟩ = some (.int .i64 0) := (blk_cell BK237.out 0).trans rfl; have hcz120_1 : w115.cell? ⟨gb237, 1, none⟩ = some (.int .i64 0) := (blk_cell BK237.out 1).trans rfl; have hcz120_2 : w115.cell? ⟨gb237, 2, none⟩ = some (.int .i64 0) := (blk_cell BK237.out 2).trans rfl; have hcz120_3 : w115.cell? ⟨gb237, 3, none⟩ = some (.int .i64 0) := (blk_cell BK237.out 3).trans rfl; have hcz120_4 : w115.cell? ⟨gb237, 4, none⟩ = some (.bool false) := (blk_cell BK237.out 4).trans rfl; have hcz120_5 : w115.cell? ⟨gb237, 5, none⟩ = some (.slice none 0 0) := (blk_cell BK237.out 5).trans rfl; have hfz120_0 := blk_frozen BK237.out 0; have hfz120_1 := blk_frozen BK237.out 1; have hfz120_2 := blk_frozen BK237.out 2; have hfz120_3 := blk_frozen BK237.out 3; have hfz120_4 := blk_frozen BK237.out 4; have hfz120_5 := blk_frozen BK237.out 5; obtain ⟨Ao121, co121, eo121⟩ := Kd.V_slice HO235.out; subst eo121) | ((with_reducible refine gate_store (t := 29) (p := 11) rfl ?_); refine store_event (t := 29) (p := 11) (v := ?vo_w122) (w1 := ((((((w115.setCell ⟨gb237, 0, none⟩ (.int .i64 t228)).setCell ⟨gb237, 1, none⟩ (.int .i64 t229)).setCell ⟨gb237, 2, none⟩ (.int .i64 t230)).setCell ⟨gb237, 3, none⟩ (.int .i64 t231)).setCell ⟨gb237, 4, none⟩ (.bool t232)).setCell ⟨gb237, 5, none⟩ (.slice Ao121 t233.length co121))) ?hg ?ho ?hn ?hr ?_; (case ho => rfl); (case hg => rfl); (case hn => rfl); (case hr => first | (go_simp; done) | (go_simp; rfl)); intro w122 hw; have n0_ : Aside0 (Kd.V k82 82 w122 w.heap.size (fun k_ => k_ ≠ gb189 ∧ k_ ≠ gb190 ∧ k_ ≠ gb200 ∧ k_ ≠ gb220 ∧ k_ ≠ gb237) (.slice Ao36 t194.length co36) t194) := ⟨(by rw [hw]; exact (by (with_reducible repeat (first | apply Kd.V_alloc | apply Kd.V_drewN | apply Kd.V_drew)); exact Kd.V_mono (Kd.V_far (p := ⟨gb237, 5, none⟩) (Kd.V_far (p := ⟨gb237, 4, none⟩) (Kd.V_far (p := ⟨gb237, 3, none⟩) (Kd.V_far (p := ⟨gb237, 2, none⟩) (Kd.V_far (p := ⟨gb237, 1, none⟩) (Kd.V_far (p := ⟨gb237, 0, none⟩) (Kd.V_mono HO_201000.out (fun k_ hk => (⟨hk, hk.2⟩ : _ ∧ k_ ≠ gb237))) (fun _ hk => hk.2) (.int .i64 t228)) (fun _ hk => hk.2) (.int .i64 t229)) (fun _ hk => hk.2) (.int .i64 t230)) (fun _ hk => hk.2) (.int .i64 t231)) (fun _ hk => hk.2) (.bool t232)) (fun _ hk => hk.2) (.slice Ao121 t233.length co121)) (fun _ hk => ⟨hk.1.1.1, ⟨hk.1.1.2.1, ⟨hk.1.1.2.2.1, ⟨hk.1.1.2.2.2, hk.1.2⟩⟩⟩⟩)))⟩; have n1_ : Aside0 (Kd.V k84 84 w122 w.heap.size (fun k_ => k_ ≠ gb189 ∧ k_ ≠ gb190 ∧ k_ ≠ gb200 ∧ k_ ≠ gb220 ∧ k_ ≠ gb237) (.slice Ao49 t214.length co49) t214) := ⟨(by rw [hw]; exact (by (with_reducible repeat (first | apply Kd.V_alloc | apply Kd.V_drewN | apply Kd.V_drew)); exact Kd.V_mono (Kd.V_far (p := ⟨gb237, 5, none⟩) (Kd.V_far (p := ⟨gb237, 4, none⟩) (Kd.V_far (p := ⟨gb237, 3, none⟩) (Kd.V_far (p := ⟨gb237, 2, none⟩) (Kd.V_far (p := ⟨gb237, 1, none⟩) (Kd.V_far (p := ⟨gb237, 0, none⟩) (Kd.V_mono HO_221000.out (fun k_ hk => (⟨hk, hk.2⟩ : _ ∧ k_ ≠ gb237))) (fun _ hk => hk.2) (.int .i64 t228)) (fun _ hk => hk.2) (.int .i64 t229)) (fun _ hk => hk.2) (.int .i64 t230)) (fun _ hk => hk.2) (.int .i64 t231)) (fun _ hk => hk.2) (.bool t232)) (fun _ hk => hk.2) (.slice Ao121 t233.length co121)) (fun _ hk => ⟨hk.1.1.1, ⟨hk.1.1.2.1, ⟨hk.1.1.2.2.1, ⟨hk.1.1.2.2.2, hk.1.2⟩⟩⟩⟩)))⟩; have n2_ : Aside0 (Kd.V (Kd.int .i64) 3 w122 w.heap.size (fun k_ => k_ ≠ gb189 ∧ k_ ≠ gb190 ∧ k_ ≠ gb200 ∧ k_ ≠ gb220 ∧ k_ ≠ gb237) (.slice Ao121 t233.length co121) t233) := ⟨(by rw [hw]; exact (by (with_reducible repeat (first | apply Kd.V_alloc | apply Kd.V_drewN | apply Kd.V_drew)); exact Kd.V_mono (Kd.V_far (p := ⟨gb237, 5, none⟩) (Kd.V_far (p := ⟨gb237, 4, none⟩) (Kd.V_far (p := ⟨gb237, 3, none⟩) (Kd.V_far (p := ⟨gb237, 2, none⟩) (Kd.V_far (p := ⟨gb237, 1, none⟩) (Kd.V_far (p := ⟨gb237, 0, none⟩) (Kd.V_mono HO235.out (fun k_ hk => (⟨hk, hk.2⟩ : _ ∧ k_ ≠ gb237))) (fun _ hk => hk.2) (.int .i64 t228)) (fun _ hk => hk.2) (.int .i64 t229)) (fun _ hk => hk.2) (.int .i64 t230)) (fun _ hk => hk.2) (.int .i64 t231)) (fun _ hk => hk.2) (.bool t232)) (fun _ hk => hk.2) (.slice Ao121 t233.length co121)) (fun _ hk => ⟨hk.1.1.1, ⟨hk.1.1.2.1, ⟨hk.1.1.2.2.1, ⟨hk.1.1.2.2.2, hk.1.2⟩⟩⟩⟩)))⟩; have n3_ : Aside0 (w122.heap[gb189]? = some (.cells #[.slice A0_0 l0_0.length c0_0, .int .i64 a0_1, .int .i64 a0_2] 26 (0, 0))) := ⟨(by rw [hw]; exact (by (with_reducible repeat (first | refine blk_drewN ?_ _ | refine blk_drew ?_ | refine blk_alloc ?_ _)); refine blk_far ?_ NB189_237.out _; (with_reducible repeat (first | refine blk_drewN ?_ _ | refine blk_drew ?_ | refine blk_alloc ?_ _)); refine blk_far ?_ NB189_237.out _; (with_reducible repeat (first | refine blk_drewN ?_ _ | refine blk_drew ?_ | refine blk_alloc ?_ _)); refine blk_far ?_ NB189_237.out _; (with_reducible repeat (first | refine blk_drewN ?_ _ | refine blk_drew ?_ | refine blk_alloc ?_ _)); refine blk_far ?_ NB189_237.out _; (with_reducible repeat (first | refine blk_drewN ?_ _ | refine blk_drew ?_ | refine blk_alloc ?_ _)); refine blk_far ?_ NB189_237.out _; (with_reducible repeat (first | refine blk_drewN ?_ _ | refine blk_drew ?_ | refine blk_alloc ?_ _)); refine blk_far ?_ NB189_237.out _; (with_reducible repeat (first | refine blk_drewN ?_ _ | refine blk_drew ?_ | refine blk_alloc ?_ _)); exact BK189.out))⟩; have n4_ : Aside0 (w122.heap[gb190]? = some (.cells #[.int .i64 a2_0, .int .i64 a2_1, .int .i64 a2_2, .int .i64 a2_3, .bool a2_4, .slice A2_5 l2_5.length c2_5] 29 (0, 0))) := ⟨(by rw [hw]; exact (by (with_reducible repeat (first | refine blk_drewN ?_ _ | refine blk_drew ?_ | refine blk_alloc ?_ _)); refine blk_far ?_ NB190_237.out _; (with_reducible repeat (first | refine blk_drewN ?_ _ | refine blk_drew ?_ | refine blk_alloc ?_ _)); refine blk_far ?_ NB190_237.out _; (with_reducible repeat (first | refine blk_drewN ?_ _ | refine blk_drew ?_ | refine blk_alloc ?_ _)); refine blk_far ?_ NB190_237.out _; (with_reducible repeat (first | refine blk_drewN ?_ _ | refine blk_drew ?_ | refine blk_alloc ?_ _)); refine blk_far ?_ NB190_237.out _; (with_reducible repeat (first | refine blk_drewN ?_ _ | refine blk_drew ?_ | refine blk_alloc ?_ _)); refine blk_far ?_ NB190_237.out _; (with_reducible repeat (first | refine blk_drewN ?_ _ | refine blk_drew ?_ | refine blk_alloc ?_ _)); refine blk_far ?_ NB190_237.out _; (with_reducible repeat (first | refine blk_drewN ?_ _ | refine blk_drew ?_ | refine blk_alloc ?_ _)); exact BK190.out))⟩; have n5_ : Aside0 (w122.heap[gb200]? = some (.cells #[.slice Ao36 t194.length co36, .int .i64 t197, .int .i64 t198] 26 (0, 0))) := ⟨(by rw [hw]; exact (by (with_reducible repeat (first | refine blk_drewN ?_ _ | refine blk_drew ?_ | refine blk_alloc ?_ _)); refine blk_far ?_ NB200_237.out _; (with_reducible repeat (first | refine blk_drewN ?_ _ | refine blk_drew ?_ | refine blk_alloc ?_ _)); refine blk_far ?_ NB200_237.out _; (with_reducible repeat (first | refine blk_drewN ?_ _ | refine blk_drew ?_ | refine blk_alloc ?_ _)); refine blk_far ?_ NB200_237.out _; (with_reducible repeat (first | refine blk_drewN ?_ _ | refine blk_drew ?_ | refine blk_alloc ?_ _)); refine blk_far ?_ NB200_237.out _; (with_reducible repeat (first | refine blk_drewN ?_ _ | refine blk_drew ?_ | refine blk_alloc ?_ _)); refine blk_far ?_ NB200_237.out _; (with_reducible repeat (first | refine blk_drewN ?_ _ | refine blk_drew ?_ | refine blk_alloc ?_ _)); refine blk_far ?_ NB200_237.out _; (with_reducible repeat (first | refine blk_drewN ?_ _ | refine blk_drew ?_ | refine blk_alloc ?_ _)); exact BK200.out))⟩; have n6_ : Aside0 (w122.heap[gb220]? = some (.cells #[.slice Ao49 t214.length co49, .int .i64 t217, .int .i64 t218] 37 (0, 0))) := ⟨(by rw [hw]; exact (by (with_reducible repeat (first | refine blk_drewN ?_ _ | refine blk_drew ?_ | refine blk_alloc ?_ _)); refine blk_far ?_ NB220_237.out _; (with_reducible repeat (first | refine blk_drewN ?_ _ | refine blk_drew ?_ | refine blk_alloc ?_ _)); refine blk_far ?_ NB220_237.out _; (with_reducible repeat (first | refine blk_drewN ?_ _ | refine blk_drew ?_ | refine blk_alloc ?_ _)); refine blk_far ?_ NB220_237.out _; (with_reducible repeat (first | refine blk_drewN ?_ _ | refine blk_drew ?_ | refine blk_alloc ?_ _)); refine blk_far ?_ NB220_237.out _; (with_reducible repeat (first | refine blk_drewN ?_ _ | refine blk_drew ?_ | refine blk_alloc ?_ _)); refine blk_far ?_ NB220_237.out _; (with_reducible repeat (first | refine blk_drewN ?_ _ | refine blk_drew ?_ | refine blk_alloc ?_ _)); refine blk_far ?_ NB220_237.out _; (with_reducible repeat (first | refine blk_drewN ?_ _ | refine blk_drew ?_ | refine blk_alloc ?_ _)); exact BK220.out))⟩; have n7_ : Aside0 (w122.heap[gb237]? = some (.cells #[.int .i64 t228, .int .i64 t229, .int .i64 t230, .int .i64 t231, .bool t232, .slice Ao121 t233.length co121] 29 (0, 0))) := ⟨(by rw [hw]; exact (by (with_reducible repeat (first | refine blk_drewN ?_ _ | refine blk_drew ?_ | refine blk_alloc ?_ _)); refine blk_put (cs := #[.int .i64 t228, .int .i64 t229, .int .i64 t230, .int .i64 t231, .bool t232, .slice none 0 0]) ?_ 5 _ rfl; (with_reducible repeat (first | refine blk_drewN ?_ _ | refine blk_drew ?_ | refine blk_alloc ?_ _)); refine blk_put (cs := #[.int .i64 t228, .int .i64 t229, .int .i64 t230, .int .i64 t231, .bool false, .slice none 0 0]) ?_ 4 _ rfl; (with_reducible repeat (first | refine blk_drewN ?_ _ | refine blk_drew ?_ | refine blk_alloc ?_ _)); refine blk_put (cs := #[.int .i64 t228, .int .i64 t229, .int .i64 t230, .int .i64 0, .bool false, .slice none 0 0]) ?_ 3 _ rfl; (with_reducible repeat (first | refine blk_drewN ?_ _ | refine blk_drew ?_ | refine blk_alloc ?_ _)); refine blk_put (cs := #[.int .i64 t228, .int .i64 t229, .int .i64 0, .int .i64 0, .bool false, .slice none 0 0]) ?_ 2 _ rfl; (with_reducible repeat (first | refine blk_drewN ?_ _ | refine blk_drew ?_ | refine blk_alloc ?_ _)); refine blk_put (cs := #[.int .i64 t228, .int .i64 0, .int .i64 0, .int .i64 0, .bool false, .slice none 0 0]) ?_ 1 _ rfl; (with_reducible repeat (first | refine blk_drewN ?_ _ | refine blk_drew ?_ | refine blk_alloc ?_ _)); refine blk_put (cs := #[.int .i64 0, .int .i64 0, .int .i64 0, .int .i64 0, .bool false, .slice none 0 0]) ?_ 0 _ rfl; (with_reducible repeat (first | refine blk_drewN ?_ _ | refine blk_drew ?_ | refine blk_alloc ?_ _)); exact BK237.out))⟩; have n8_ : Aside0 (Below w.heap.size w w122) := ⟨(by rw [hw]; exact (by repeat (first | (with_reducible first | exact HB.out | apply below_alloc | apply pw_below_drewN | apply below_drew1 | refine below_set ?_ GE189.out | refine below_set ?_ GE190.out | refine below_set ?_ GE200.out | refine below_set ?_ GE220.out | refine below_set ?_ GE237.out) | exact HB.out)))⟩; clear hw; clear HO_201000; clear HO_221000; clear HO235; clear BK189; clear BK190; clear BK200; clear BK220; clear BK237; clear HB; have HO_201000 := n0_; have HO_221000 := n1_; have HO235 := n2_; have BK189 := n3_; have BK190 := n4_; have BK200 := n5_; have BK220 := n6_; have BK237 := n7_; have HB := n8_; clear n0_ n1_ n2_ n3_ n4_ n5_ n6_ n7_ n8_; have hnb123 := NB189_190.out; have hnc123 := NB190_189.out; have hcz124_0 : w122.cell? ⟨gb189, 0, none⟩ = some (.slice A0_0 l0_0.length c0_0) := (blk_cell BK189.out 0).trans rfl; have hcz124_1 : w122.cell? ⟨gb189, 1, none⟩ = some (.int .i64 a0_1) := (blk_cell BK189.out 1).trans rfl; have hcz124_2 : w122.cell? ⟨gb189, 2, none⟩ = some (.int .i64 a0_2) := (blk_cell BK189.out 2).trans rfl; have hfz124_0 := blk_frozen BK189.out 0; have hfz124_1 := blk_frozen BK189.out 1; have hfz124_2 := blk_frozen BK189.out 2) | ((with_reducible refine gate_callee (f := 23) rfl ?_); refine goesL_ (some 67) rfl rfl Try.func23 (by kernel_rfl) rfl #[.agg #[.slice A0_0 l0_0.length c0_0, .int .i64 a0_1, .int .i64 a0_2], .int .i64 a1] rfl mT ?_; (with_reducible refine (store_Get.calls (fun k_ => k_ < w.heap.size) _ _ l0_0 a0_1 a0_2 a1 t238 t239 t240 t241 t242 t243 t246 _ ?side1 A65.out).mono ?_); (case side1 => exact Kd.V_mk HC0_0.out (Kd.F_below (Kd.C_F k82_heap HR0_0.out) (by repeat (first | (with_reducible first | exact HB.out | apply below_alloc | apply pw_below_drewN | apply below_drew1 | refine below_set ?_ GE189.out | refine below_set ?_ GE190.out | refine below_set ?_ GE200.out | refine below_set ?_ GE220.out | refine below_set ?_ GE237.out) | exact HB.out)))); rintro e w125 ⟨v244, rfl, ho0, hb⟩; refine ⟨_, rfl, ?_⟩; have n0_ := Aside0.mk (Kd.V_below (by (with_reducible repeat (first | apply Kd.V_alloc | apply Kd.V_drewN | apply Kd.V_drew)); exact HO_201000.out) hb); have n1_ := Aside0.mk (Kd.V_below (by (with_reducible repeat (first | apply Kd.V_alloc | apply Kd.V_drewN | apply Kd.V_drew)); exact HO_221000.out) hb); have n2_ := Aside0.mk (Kd.V_below (by (with_reducible repeat (first | apply Kd.V_alloc | apply Kd.V_drewN | apply Kd.V_drew)); exact HO235.out) hb); have n3_ := Aside0.mk (Kd.V_lower (Kd.V_mono (ok' := fun k_ => k_ ≠ gb189 ∧ k_ ≠ gb190 ∧ k_ ≠ gb200 ∧ k_ ≠ gb220 ∧ k_ ≠ gb237) ho0 (fun k_ hk_ => ⟨Or.elim hk_ (fun hs_ => fun e_ => Nat.not_le.2 hs_ (by rw [e_]; exact GW189.out)) (fun hn_ => (Kd.freshB (g := gb189) (o := .cells #[.slice A0_0 l0_0.length c0_0, .int .i64 a0_1, .int .i64 a0_2] 26 (0, 0)) (kT BK189.out) k_ hn_)), Or.elim hk_ (fun hs_ => fun e_ => Nat.not_le.2 hs_ (by rw [e_]; exact GW190.out)) (fun hn_ => (Kd.freshB (g := gb190) (o := .cells #[.int .i64 a2_0, .int .i64 a2_1, .int .i64 a2_2, .int .i64 a2_3, .bool a2_4, .slice A2_5 l2_5.length c2_5] 29 (0, 0)) (kT BK190.out) k_ hn_)), Or.elim hk_ (fun hs_ => fun e_ => Nat.not_le.2 hs_ (by rw [e_]; exact GW200.out)) (fun hn_ => (Kd.freshB (g := gb200) (o := .cells #[.slice Ao36 t194.length co36, .int .i64 t197, .int .i64 t198] 26 (0, 0)) (kT BK200.out) k_ hn_)), Or.elim hk_ (fun hs_ => fun e_ => Nat.not_le.2 hs_ (by rw [e_]; exact GW220.out)) (fun hn_ => (Kd.freshB (g := gb220) (o := .cells #[.slice Ao49 t214.length co49, .int .i64 t217, .int .i64 t218] 37 (0, 0)) (kT BK220.out) k_ hn_)), Or.elim hk_ (fun hs_ => fun e_ => Nat.not_le.2 hs_ (by rw [e_]; exact GW237.out)) (fun hn_ => (Kd.freshB (g := gb237) (o := .cells #[.int .i64 t228, .int .i64 t229, .int .i64 t230, .int .i64 t231, .bool t232, .slice Ao121 t233.length co121] 29 (0, 0)) (kT BK237.out) k_ hn_))⟩)) (below_size (by repeat (first | (with_reducible first | exact HB.out | apply below_alloc | apply pw_below_drewN | apply below_drew1 | refine below_set ?_ GE189.out | refine below_set ?_ GE190.out | refine below_set ?_ GE200.out | refine below_set ?_ GE220.out | refine below_set ?_ GE237.out) | exact HB.out)))); have n4_ := Aside0.mk (blk_below (g := gb189) (o := .cells #[.slice A0_0 l0_0.length c0_0, .int .i64 a0_1, .int .i64 a0_2] 26 (0, 0)) (kT BK189.out) hb); have n5_ := Aside0.mk (blk_below (g := gb190) (o := .cells #[.int .i64 a2_0, .int .i64 a2_1, .int .i64 a2_2, .int .i64 a2_3, .bool a2_4, .slice A2_5 l2_5.length c2_5] 29 (0, 0)) (kT BK190.out) hb); have n6_ := Aside0.mk (blk_below (g := gb200) (o := .cells #[.slice Ao36 t194.length co36, .int .i64 t197, .int .i64 t198] 26 (0, 0)) (kT BK200.out) hb); have n7_ := Aside0.mk (blk_below (g := gb220) (o := .cells #[.slice Ao49 t214.length co49, .int .i64 t217, .int .i64 t218] 37 (0, 0)) (kT BK220.out) hb); have n8_ := Aside0.mk (blk_below (g := gb237) (o := .cells #[.int .i64 t228, .int .i64 t229, .int .i64 t230, .int .i64 t231, .bool t232, .slice Ao121 t233.length co121] 29 (0, 0)) (kT BK237.out) hb); have n9_ := Aside0.mk (below_step (by repeat (first | (with_reducible first | exact HB.out | apply below_alloc | apply pw_below_drewN | apply below_drew1 | refine below_set ?_ GE189.out | refine below_set ?_ GE190.out | refine below_set ?_ GE200.out | refine below_set ?_ GE220.out | refine below_set ?_ GE237.out) | exact HB.out)) hb); clear HO_201000; clear HO_221000; clear HO235; clear BK189; clear BK190; clear BK200; clear BK220; clear BK237; clear HB; have HO_201000 := n0_; have HO_221000 := n1_; have HO235 := n2_; have HO245 := n3_; have BK189 := n4_; have BK190 := n5_; have BK200 := n6_; have BK220 := n7_; have BK237 := n8_; have HB := n9_; clear n0_ n1_ n2_ n3_ n4_ n5_ n6_ n7_ n8_ n9_; (try clear hb); (try clear hb2); (try clear hk); (try clear hi); (try clear ho0)) | ((with_reducible refine gate_dst (N := 13) rfl ?_); (try (refine gate_guard (by rfl) ?_; dsimp only)); refine box_event ?hg (N := 13) ?hd (cs := #[.int .i64 0, .int .i64 0, .int .i64 0, .int .i64 0, .bool false, .slice none 0 0]) (t := 29) ?hr ?_; (case hd => rfl); (case hg => rfl); (case hr => first | (go_simp; done) | (go_simp; rfl)); intro gb247 hg w126 hbox hb; have n0_ := Aside0.mk (Kd.V_below (Kd.V_elderB (by (with_reducible repeat (first | apply Kd.V_alloc | apply Kd.V_drewN | apply Kd.V_drew)); exact HO_201000.out) gb247 (Nat.le_of_eq hg.symm)) hb); have n1_ := Aside0.mk (Kd.V_below (Kd.V_elderB (by (with_reducible repeat (first | apply Kd.V_alloc | apply Kd.V_drewN | apply Kd.V_drew)); exact HO_221000.out) gb247 (Nat.le_of_eq hg.symm)) hb); have n2_ := Aside0.mk (Kd.V_below (Kd.V_elderB (by (with_reducible repeat (first | apply Kd.V_alloc | apply Kd.V_drewN | apply Kd.V_drew)); exact HO235.out) gb247 (Nat.le_of_eq hg.symm)) hb); have n3_ := Aside0.mk (Kd.V_below (Kd.V_elderB (by (with_reducible repeat (first | apply Kd.V_alloc | apply Kd.V_drewN | apply Kd.V_drew)); exact HO245.out) gb247 (Nat.le_of_eq hg.symm)) hb); have n4_ := Aside0.mk (blk_below (g := gb189) (o := .cells #[.slice A0_0 l0_0.length c0_0, .int .i64 a0_1, .int .i64 a0_2] 26 (0, 0)) (kT BK189.out) hb); have n5_ := Aside0.mk (blk_below (g := gb190) (o := .cells #[.int .i64 a2_0, .int .i64 a2_1, .int .i64 a2_2, .int .i64 a2_3, .bool a2_4, .slice A2_5 l2_5.length c2_5] 29 (0, 0)) (kT BK190.out) hb); have n6_ := Aside0.mk (blk_below (g := gb200) (o := .cells #[.slice Ao36 t194.length co36, .int .i64 t197, .int .i64 t198] 26 (0, 0)) (kT BK200.out) hb); have n7_ := Aside0.mk (blk_below (g := gb220) (o := .cells #[.slice Ao49 t214.length co49, .int .i64 t217, .int .i64 t218] 37 (0, 0)) (kT BK220.out) hb); have n8_ := Aside0.mk (blk_below (g := gb237) (o := .cells #[.int .i64 t228, .int .i64 t229, .int .i64 t230, .int .i64 t231, .bool t232, .slice Ao121 t233.length co121] 29 (0, 0)) (kT BK237.out) hb); have n9_ := Aside0.mk (below_step (by repeat (first | (with_reducible first | exact HB.out | apply below_alloc | apply pw_below_drewN | apply below_drew1 | refine below_set ?_ GE189.out | refine below_set ?_ GE190.out | refine below_set ?_ GE200.out | refine below_set ?_ GE220.out | refine below_set ?_ GE237.out) | exact HB.out)) hb); have n10_ := Aside0.mk (hbox); have n11_ := Aside0.mk ((by rw [hg]; exact (below_size (by repeat (first | (with_reducible first | exact HB.out | apply below_alloc | apply pw_below_drewN | apply below_drew1 | refine below_set ?_ GE189.out | refine below_set ?_ GE190.out | refine below_set ?_ GE200.out | refine below_set ?_ GE220.out | refine below_set ?_ GE237.out) | exact HB.out))) : w.heap.size ≤ gb247)); have n12_ := Aside0.mk ((by rw [hg]; exact (below_size (by repeat (first | (with_reducible first | exact HB.out | apply below_alloc | apply pw_below_drewN | apply below_drew1 | refine below_set ?_ GE189.out | refine below_set ?_ GE190.out | refine below_set ?_ GE200.out | refine below_set ?_ GE220.out | refine below_set ?_ GE237.out) | exact HB.out))) : w.heap.size ≤ gb247)); have n13_ := Aside0.mk ((by rw [hg]; exact Nat.ne_of_lt (blk_lt (g := gb189) (o := .cells #[.slice A0_0 l0_0.length c0_0, .int .i64 a0_1, .int .i64 a0_2] 26 (0, 0)) (kT BK189.out)) : gb189 ≠ gb247)); have n14_ := Aside0.mk ((by rw [hg]; exact Nat.ne_of_gt (blk_lt (g := gb189) (o := .cells #[.slice A0_0 l0_0.length c0_0, .int .i64 a0_1, .int .i64 a0_2] 26 (0, 0)) (kT BK189.out)) : gb247 ≠ gb189)); have n15_ := Aside0.mk ((by rw [hg]; exact Nat.ne_of_lt (blk_lt (g := gb190) (o := .cells #[.int .i64 a2_0, .int .i64 a2_1, .int .i64 a2_2, .int .i64 a2_3, .bool a2_4, .slice A2_5 l2_5.length c2_5] 29 (0, 0)) (kT BK190.out)) : gb190 ≠ gb247)); have n16_ := Aside0.mk ((by rw [hg]; exact Nat.ne_of_gt (blk_lt (g := gb190) (o := .cells #[.int .i64 a2_0, .int .i64 a2_1, .int .i64 a2_2, .int .i64 a2_3, .bool a2_4, .slice A2_5 l2_5.length c2_5] 29 (0, 0)) (kT BK190.out)) : gb247 ≠ gb190)); have n17_ := Aside0.mk ((by rw [hg]; exact Nat.ne_of_lt (blk_lt (g := gb200) (o := .cells #[.slice Ao36 t194.length co36, .int .i64 t197, .int .i64 t198] 26 (0, 0)) (kT BK200.out)) : gb200 ≠ gb247)); have n18_ := Aside0.mk ((by rw [hg]; exact Nat.ne_of_gt (blk_lt (g := gb200) (o := .cells #[.slice Ao36 t194.length co36, .int .i64 t197, .int .i64 t198] 26 (0, 0)) (kT BK200.out)) : gb247 ≠ gb200)); have n19_ := Aside0.mk ((by rw [hg]; exact Nat.ne_of_lt (blk_lt (g := gb220) (o := .cells #[.slice Ao49 t214.length co49, .int .i64 t217, .int .i64 t218] 37 (0, 0)) (kT BK220.out)) : gb220 ≠ gb247)); have n20_ := Aside0.mk ((by rw [hg]; exact Nat.ne_of_gt (blk_lt (g := gb220) (o := .cells #[.slice Ao49 t214.length co49, .int .i64 t217, .int .i64 t218] 37 (0, 0)) (kT BK220.out)) : gb247 ≠ gb220)); have n21_ := Aside0.mk ((by rw [hg]; exact Nat.ne_of_lt (blk_lt (g := gb237) (o := .cells #[.int .i64 t228, .int .i64 t229, .int .i64 t230, .int .i64 t231, .bool t232, .slice Ao121 t233.length co121] 29 (0, 0)) (kT BK237.out)) : gb237 ≠ gb247)); have n22_ := Aside0.mk ((by rw [hg]; exact Nat.ne_of_gt (blk_lt (g := gb237) (o := .cells #[.int .i64 t228, .int .i64 t229, .int .i64 t230, .int .i64 t231, .bool t232, .slice Ao121 t233.length co121] 29 (0, 0)) (kT BK237.out)) : gb247 ≠ gb237)); clear HO_201000; clear HO_221000; clear HO235; clear HO245; clear BK189; clear BK190; clear BK200; clear BK220; clear BK237; clear HB; have HO_201000 := n0_; have HO_221000 := n1_; have HO235 := n2_; have HO245 := n3_; have BK189 := n4_; have BK190 := n5_; have BK200 := n6_; have BK220 := n7_; have BK237 := n8_; have HB := n9_; have BK247 := n10_; have GW247 := n11_; have GE247 := n12_; have NB189_247 := n13_; have NB247_189 := n14_; have NB190_247 := n15_; have NB247_190 := n16_; have NB200_247 := n17_; have NB247_200 := n18_; have NB220_247 := n19_; have NB247_220 := n20_; have NB237_247 := n21_; have NB247_237 := n22_; clear n0_ n1_ n2_ n3_ n4_ n5_ n6_ n7_ n8_ n9_ n10_ n11_ n12_ n13_ n14_ n15_ n16_ n17_ n18_ n19_ n20_ n21_ n22_; clear hb hbox hg; have hnb127 := NB247_189.out; have hnc127 := NB189_247.out; have hnb128 := NB247_190.out; have hnc128 := NB190_247.out; have hnb129 := NB247_200.out; have hnc129 := NB200_247.out; have hnb130 := NB247_220.out; have hnc130 := NB220_247.out; have hnb131 := NB247_237.out; have hnc131 := NB237_247.out; have hcz132_0 : w126.cell? ⟨gb247, 0, none⟩ = some (.int .i64 0) := (blk_cell BK247.out 0).trans rfl; have hcz132_1 : w126.cell? ⟨gb247, 1, none⟩ = some (.int .i64 0) := (blk_cell BK247.out 1).trans rfl; have hcz132_2 : w126.cell? ⟨gb247, 2, none⟩ = some (.int .i64 0) := (blk_cell BK247.out 2).trans rfl; have hcz132_3 : w126.cell? ⟨gb247, 3, none⟩ = some (.int .i64 0) := (blk_cell BK247.out 3).trans rfl; have hcz132_4 : w126.cell? ⟨gb247, 4, none⟩ = some (.bool false) := (blk_cell BK247.out 4).trans rfl; have hcz132_5 : w126.cell? ⟨gb247, 5, none⟩ = some (.slice none 0 0) := (blk_cell BK247.out 5).trans rfl; have hfz132_0 := blk_frozen BK247.out 0; have hfz132_1 := blk_frozen BK247.out 1; have hfz132_2 := blk_frozen BK247.out 2; have hfz132_3 := blk_frozen BK247.out 3; have hfz132_4 := blk_frozen BK247.out 4; have hfz132_5 := blk_frozen BK247.out 5; obtain ⟨Ao133, co133, eo133⟩ := Kd.V_slice HO245.out; subst eo133))
          have n0_ : Aside0 (Kd.V k82 82 ((((((w126.setCell ⟨gb247, 0, none⟩ (.int .i64 t238)).setCell ⟨gb247, 1, none⟩ (.int .i64 t239)).setCell ⟨gb247, 2, none⟩ (.int .i64 t240)).setCell ⟨gb247, 3, none⟩ (.int .i64 t241)).setCell ⟨gb247, 4, none⟩ (.bool t242)).setCell ⟨gb247, 5, none⟩ (.slice Ao133 t243.length co133)) w.heap.size (fun k_ => k_ ≠ gb189 ∧ k_ ≠ gb190 ∧ k_ ≠ gb200 ∧ k_ ≠ gb220 ∧ k_ ≠ gb237 ∧ k_ ≠ gb247) (.slice Ao36 t194.length co36) t194) := ⟨by (with_reducible repeat (first | apply Kd.V_alloc | apply Kd.V_drewN | apply Kd.V_drew)); exact Kd.V_mono (Kd.V_far (p := ⟨gb247, 5, none⟩) (Kd.V_far (p := ⟨gb247, 4, none⟩) (Kd.V_far (p := ⟨gb247, 3, none⟩) (Kd.V_far (p := ⟨gb247, 2, none⟩) (Kd.V_far (p := ⟨gb247, 1, none⟩) (Kd.V_far (p := ⟨gb247, 0, none⟩) (Kd.V_mono HO_201000.out (fun k_ hk => (⟨hk, hk.2⟩ : _ ∧ k_ ≠ gb247))) (fun _ hk => hk.2) (.int .i64 t238)) (fun _ hk => hk.2) (.int .i64 t239)) (fun _ hk => hk.2) (.int .i64 t240)) (fun _ hk => hk.2) (.int .i64 t241)) (fun _ hk => hk.2) (.bool t242)) (fun _ hk => hk.2) (.slice Ao133 t243.length co133)) (fun _ hk => ⟨hk.1.1.1, ⟨hk.1.1.2.1, ⟨hk.1.1.2.2.1, ⟨hk.1.1.2.2.2.1, ⟨hk.1.1.2.2.2.2, hk.1.2⟩⟩⟩⟩⟩)⟩
          have n1_ : Aside0 (Kd.V k84 84 ((((((w126.setCell ⟨gb247, 0, none⟩ (.int .i64 t238)).setCell ⟨gb247, 1, none⟩ (.int .i64 t239)).setCell ⟨gb247, 2, none⟩ (.int .i64 t240)).setCell ⟨gb247, 3, none⟩ (.int .i64 t241)).setCell ⟨gb247, 4, none⟩ (.bool t242)).setCell ⟨gb247, 5, none⟩ (.slice Ao133 t243.length co133)) w.heap.size (fun k_ => k_ ≠ gb189 ∧ k_ ≠ gb190 ∧ k_ ≠ gb200 ∧ k_ ≠ gb220 ∧ k_ ≠ gb237 ∧ k_ ≠ gb247) (.slice Ao49 t214.length co49) t214) := ⟨by (with_reducible repeat (first | apply Kd.V_alloc | apply Kd.V_drewN | apply Kd.V_drew)); exact Kd.V_mono (Kd.V_far (p := ⟨gb247, 5, none⟩) (Kd.V_far (p := ⟨gb247, 4, none⟩) (Kd.V_far (p := ⟨gb247, 3, none⟩) (Kd.V_far (p := ⟨gb247, 2, none⟩) (Kd.V_far (p := ⟨gb247, 1, none⟩) (Kd.V_far (p := ⟨gb247, 0, none⟩) (Kd.V_mono HO_221000.out (fun k_ hk => (⟨hk, hk.2⟩ : _ ∧ k_ ≠ gb247))) (fun _ hk => hk.2) (.int .i64 t238)) (fun _ hk => hk.2) (.int .i64 t239)) (fun _ hk => hk.2) (.int .i64 t240)) (fun _ hk => hk.2) (.int .i64 t241)) (fun _ hk => hk.2) (.bool t242)) (fun _ hk => hk.2) (.slice Ao133 t243.length co133)) (fun _ hk => ⟨hk.1.1.1, ⟨hk.1.1.2.1, ⟨hk.1.1.2.2.1, ⟨hk.1.1.2.2.2.1, ⟨hk.1.1.2.2.2.2, hk.1.2⟩⟩⟩⟩⟩)⟩
          have n2_ : Aside0 (Kd.V (Kd.int .i64) 3 ((((((w126.setCell ⟨gb247, 0, none⟩ (.int .i64 t238)).setCell ⟨gb247, 1, none⟩ (.int .i64 t239)).setCell ⟨gb247, 2, none⟩ (.int .i64 t240)).setCell ⟨gb247, 3, none⟩ (.int .i64 t241)).setCell ⟨gb247, 4, none⟩ (.bool t242)).setCell ⟨gb247, 5, none⟩ (.slice Ao133 t243.length co133)) w.heap.size (fun k_ => k_ ≠ gb189 ∧ k_ ≠ gb190 ∧ k_ ≠ gb200 ∧ k_ ≠ gb220 ∧ k_ ≠ gb237 ∧ k_ ≠ gb247) (.slice Ao121 t233.length co121) t233) := ⟨by (with_reducible repeat (first | apply Kd.V_alloc | apply Kd.V_drewN | apply Kd.V_drew)); exact Kd.V_mono (Kd.V_far (p := ⟨gb247, 5, none⟩) (Kd.V_far (p := ⟨gb247, 4, none⟩) (Kd.V_far (p := ⟨gb247, 3, none⟩) (Kd.V_far (p := ⟨gb247, 2, none⟩) (Kd.V_far (p := ⟨gb247, 1, none⟩) (Kd.V_far (p := ⟨gb247, 0, none⟩) (Kd.V_mono HO235.out (fun k_ hk => (⟨hk, hk.2⟩ : _ ∧ k_ ≠ gb247))) (fun _ hk => hk.2) (.int .i64 t238)) (fun _ hk => hk.2) (.int .i64 t239)) (fun _ hk => hk.2) (.int .i64 t240)) (fun _ hk => hk.2) (.int .i64 t241)) (fun _ hk => hk.2) (.bool t242)) (fun _ hk => hk.2) (.slice Ao133 t243.length co133)) (fun _ hk => ⟨hk.1.1.1, ⟨hk.1.1.2.1, ⟨hk.1.1.2.2.1, ⟨hk.1.1.2.2.2.1, ⟨hk.1.1.2.2.2.2, hk.1.2⟩⟩⟩⟩⟩)⟩
          have n3_ : Aside0 (Kd.V (Kd.int .i64) 3 ((((((w126.setCell ⟨gb247, 0, none⟩ (.int .i64 t238)).setCell ⟨gb247, 1, none⟩ (.int .i64 t239)).setCell ⟨gb247, 2, none⟩ (.int .i64 t240)).setCell ⟨gb247, 3, none⟩ (.int .i64 t241)).setCell ⟨gb247, 4, none⟩ (.bool t242)).setCell ⟨gb247, 5, none⟩ (.slice Ao133 t243.length co133)) w.heap.size (fun k_ => k_ ≠ gb189 ∧ k_ ≠ gb190 ∧ k_ ≠ gb200 ∧ k_ ≠ gb220 ∧ k_ ≠ gb237 ∧ k_ ≠ gb247) (.slice Ao133 t243.length co133) t243) := ⟨by (with_reducible repeat (first | apply Kd.V_alloc | apply Kd.V_drewN | apply Kd.V_drew)); exact Kd.V_mono (Kd.V_far (p := ⟨gb247, 5, none⟩) (Kd.V_far (p := ⟨gb247, 4, none⟩) (Kd.V_far (p := ⟨gb247, 3, none⟩) (Kd.V_far (p := ⟨gb247, 2, none⟩) (Kd.V_far (p := ⟨gb247, 1, none⟩) (Kd.V_far (p := ⟨gb247, 0, none⟩) (Kd.V_mono HO245.out (fun k_ hk => (⟨hk, hk.2⟩ : _ ∧ k_ ≠ gb247))) (fun _ hk => hk.2) (.int .i64 t238)) (fun _ hk => hk.2) (.int .i64 t239)) (fun _ hk => hk.2) (.int .i64 t240)) (fun _ hk => hk.2) (.int .i64 t241)) (fun _ hk => hk.2) (.bool t242)) (fun _ hk => hk.2) (.slice Ao133 t243.length co133)) (fun _ hk => ⟨hk.1.1.1, ⟨hk.1.1.2.1, ⟨hk.1.1.2.2.1, ⟨hk.1.1.2.2.2.1, ⟨hk.1.1.2.2.2.2, hk.1.2⟩⟩⟩⟩⟩)⟩
          have n4_ : Aside0 (((((((w126.setCell ⟨gb247, 0, none⟩ (.int .i64 t238)).setCell ⟨gb247, 1, none⟩ (.int .i64 t239)).setCell ⟨gb247, 2, none⟩ (.int .i64 t240)).setCell ⟨gb247, 3, none⟩ (.int .i64 t241)).setCell ⟨gb247, 4, none⟩ (.bool t242)).setCell ⟨gb247, 5, none⟩ (.slice Ao133 t243.length co133)).heap[gb189]? = some (.cells #[.slice A0_0 l0_0.length c0_0, .int .i64 a0_1, .int .i64 a0_2] 26 (0, 0))) := ⟨by (with_reducible repeat (first | refine blk_drewN ?_ _ | refine blk_drew ?_ | refine blk_alloc ?_ _)); refine blk_far ?_ NB189_247.out _; (with_reducible repeat (first | refine blk_drewN ?_ _ | refine blk_drew ?_ | refine blk_alloc ?_ _)); refine blk_far ?_ NB189_247.out _; (with_reducible repeat (first | refine blk_drewN ?_ _ | refine blk_drew ?_ | refine blk_alloc ?_ _)); refine blk_far ?_ NB189_247.out _; (with_reducible repeat (first | refine blk_drewN ?_ _ | refine blk_drew ?_ | refine blk_alloc ?_ _)); refine blk_far ?_ NB189_247.out _; (with_reducible repeat (first | refine blk_drewN ?_ _ | refine blk_drew ?_ | refine blk_alloc ?_ _)); refine blk_far ?_ NB189_247.out _; (with_reducible repeat (first | refine blk_drewN ?_ _ | refine blk_drew ?_ | refine blk_alloc ?_ _)); refine blk_far ?_ NB189_247.out _; (with_reducible repeat (first | refine blk_drewN ?_ _ | refine blk_drew ?_ | refine blk_alloc ?_ _)); exact BK189.out⟩
          have n5_ : Aside0 (((((((w126.setCell ⟨gb247, 0, none⟩ (.int .i64 t238)).setCell ⟨gb247, 1, none⟩ (.int .i64 t239)).setCell ⟨gb247, 2, none⟩ (.int .i64 t240)).setCell ⟨gb247, 3, none⟩ (.int .i64 t241)).setCell ⟨gb247, 4, none⟩ (.bool t242)).setCell ⟨gb247, 5, none⟩ (.slice Ao133 t243.length co133)).heap[gb190]? = some (.cells #[.int .i64 a2_0, .int .i64 a2_1, .int .i64 a2_2, .int .i64 a2_3, .bool a2_4, .slice A2_5 l2_5.length c2_5] 29 (0, 0))) := ⟨by (with_reducible repeat (first | refine blk_drewN ?_ _ | refine blk_drew ?_ | refine blk_alloc ?_ _)); refine blk_far ?_ NB190_247.out _; (with_reducible repeat (first | refine blk_drewN ?_ _ | refine blk_drew ?_ | refine blk_alloc ?_ _)); refine blk_far ?_ NB190_247.out _; (with_reducible repeat (first | refine blk_drewN ?_ _ | refine blk_drew ?_ | refine blk_alloc ?_ _)); refine blk_far ?_ NB190_247.out _; (with_reducible repeat (first | refine blk_drewN ?_ _ | refine blk_drew ?_ | refine blk_alloc ?_ _)); refine blk_far ?_ NB190_247.out _; (with_reducible repeat (first | refine blk_drewN ?_ _ | refine blk_drew ?_ | refine blk_alloc ?_ _)); refine blk_far ?_ NB190_247.out _; (with_reducible repeat (first | refine blk_drewN ?_ _ | refine blk_drew ?_ | refine blk_alloc ?_ _)); refine blk_far ?_ NB190_247.out _; (with_reducible repeat (first | refine blk_drewN ?_ _ | refine blk_drew ?_ | refine blk_alloc ?_ _)); exact BK190.out⟩
          have n6_ : Aside0 (((((((w126.setCell ⟨gb247, 0, none⟩ (.int .i64 t238)).setCell ⟨gb247, 1, none⟩ (.int .i64 t239)).setCell ⟨gb247, 2, none⟩ (.int .i64 t240)).setCell ⟨gb247, 3, none⟩ (.int .i64 t241)).setCell ⟨gb247, 4, none⟩ (.bool t242)).setCell ⟨gb247, 5, none⟩ (.slice Ao133 t243.length co133)).heap[gb200]? = some (.cells #[.slice Ao36 t194.length co36, .int .i64 t197, .int .i64 t198] 26 (0, 0))) := ⟨by (with_reducible repeat (first | refine blk_drewN ?_ _ | refine blk_drew ?_ | refine blk_alloc ?_ _)); refine blk_far ?_ NB200_247.out _; (with_reducible repeat (first | refine blk_drewN ?_ _ | refine blk_drew ?_ | refine blk_alloc ?_ _)); refine blk_far ?_ NB200_247.out _; (with_reducible repeat (first | refine blk_drewN ?_ _ | refine blk_drew ?_ | refine blk_alloc ?_ _)); refine blk_far ?_ NB200_247.out _; (with_reducible repeat (first | refine blk_drewN ?_ _ | refine blk_drew ?_ | refine blk_alloc ?_ _)); refine blk_far ?_ NB200_247.out _; (with_reducible repeat (first | refine blk_drewN ?_ _ | refine blk_drew ?_ | refine blk_alloc ?_ _)); refine blk_far ?_ NB200_247.out _; (with_reducible repeat (first | refine blk_drewN ?_ _ | refine blk_drew ?_ | refine blk_alloc ?_ _)); refine blk_far ?_ NB200_247.out _; (with_reducible repeat (first | refine blk_drewN ?_ _ | refine blk_drew ?_ | refine blk_alloc ?_ _)); exact BK200.out⟩
          have n7_ : Aside0 (((((((w126.setCell ⟨gb247, 0, none⟩ (.int .i64 t238)).setCell ⟨gb247, 1, none⟩ (.int .i64 t239)).setCell ⟨gb247, 2, none⟩ (.int .i64 t240)).setCell ⟨gb247, 3, none⟩ (.int .i64 t241)).setCell ⟨gb247, 4, none⟩ (.bool t242)).setCell ⟨gb247, 5, none⟩ (.slice Ao133 t243.length co133)).heap[gb220]? = some (.cells #[.slice Ao49 t214.length co49, .int .i64 t217, .int .i64 t218] 37 (0, 0))) := ⟨by (with_reducible repeat (first | refine blk_drewN ?_ _ | refine blk_drew ?_ | refine blk_alloc ?_ _)); refine blk_far ?_ NB220_247.out _; (with_reducible repeat (first | refine blk_drewN ?_ _ | refine blk_drew ?_ | refine blk_alloc ?_ _)); refine blk_far ?_ NB220_247.out _; (with_reducible repeat (first | refine blk_drewN ?_ _ | refine blk_drew ?_ | refine blk_alloc ?_ _)); refine blk_far ?_ NB220_247.out _; (with_reducible repeat (first | refine blk_drewN ?_ _ | refine blk_drew ?_ | refine blk_alloc ?_ _)); refine blk_far ?_ NB220_247.out _; (with_reducible repeat (first | refine blk_drewN ?_ _ | refine blk_drew ?_ | refine blk_alloc ?_ _)); refine blk_far ?_ NB220_247.out _; (with_reducible repeat (first | refine blk_drewN ?_ _ | refine blk_drew ?_ | refine blk_alloc ?_ _)); refine blk_far ?_ NB220_247.out _; (with_reducible repeat (first | refine blk_drewN ?_ _ | refine blk_drew ?_ | refine blk_alloc ?_ _)); exact BK220.out⟩
          have n8_ : Aside0 (((((((w126.setCell ⟨gb247, 0, none⟩ (.int .i64 t238)).setCell ⟨gb247, 1, none⟩ (.int .i64 t239)).setCell ⟨gb247, 2, none⟩ (.int .i64 t240)).setCell ⟨gb247, 3, none⟩ (.int .i64 t241)).setCell ⟨gb247, 4, none⟩ (.bool t242)).setCell ⟨gb247, 5, none⟩ (.slice Ao133 t243.length co133)).heap[gb237]? = some (.cells #[.int .i64 t228, .int .i64 t229, .int .i64 t230, .int .i64 t231, .bool t232, .slice Ao121 t233.length co121] 29 (0, 0))) := ⟨by (with_reducible repeat (first | refine blk_drewN ?_ _ | refine blk_drew ?_ | refine blk_alloc ?_ _)); refine blk_far ?_ NB237_247.out _; (with_reducible repeat (first | refine blk_drewN ?_ _ | refine blk_drew ?_ | refine blk_alloc ?_ _)); refine blk_far ?_ NB237_247.out _; (with_reducible repeat (first | refine blk_drewN ?_ _ | refine blk_drew ?_ | refine blk_alloc ?_ _)); refine blk_far ?_ NB237_247.out _; (with_reducible repeat (first | refine blk_drewN ?_ _ | refine blk_drew ?_ | refine blk_alloc ?_ _)); refine blk_far ?_ NB237_247.out _; (with_reducible repeat (first | refine blk_drewN ?_ _ | refine blk_drew ?_ | refine blk_alloc ?_ _)); refine blk_far ?_ NB237_247.out _; (with_reducible repeat (first | refine blk_drewN ?_ _ | refine blk_drew ?_ | refine blk_alloc ?_ _)); refine blk_far ?_ NB237_247.out _; (with_reducible repeat (first | refine blk_drewN ?_ _ | refine blk_drew ?_ | refine blk_alloc ?_ _)); exact BK237.out⟩
          have n9_ : Aside0 (((((((w126.setCell ⟨gb247, 0, none⟩ (.int .i64 t238)).setCell ⟨gb247, 1, none⟩ (.int .i64 t239)).setCell ⟨gb247, 2, none⟩ (.int .i64 t240)).setCell ⟨gb247, 3, none⟩ (.int .i64 t241)).setCell ⟨gb247, 4, none⟩ (.bool t242)).setCell ⟨gb247, 5, none⟩ (.slice Ao133 t243.length co133)).heap[gb247]? = some (.cells #[.int .i64 t238, .int .i64 t239, .int .i64 t240, .int .i64 t241, .bool t242, .slice Ao133 t243.length co133] 29 (0, 0))) := ⟨by (with_reducible repeat (first | refine blk_drewN ?_ _ | refine blk_drew ?_ | refine blk_alloc ?_ _)); refine blk_put (cs := #[.int .i64 t238, .int .i64 t239, .int .i64 t240, .int .i64 t241, .bool t242, .slice none 0 0]) ?_ 5 _ rfl; (with_reducible repeat (first | refine blk_drewN ?_ _ | refine blk_drew ?_ | refine blk_alloc ?_ _)); refine blk_put (cs := #[.int .i64 t238, .int .i64 t239, .int .i64 t240, .int .i64 t241, .bool false, .slice none 0 0]) ?_ 4 _ rfl; (with_reducible repeat (first | refine blk_drewN ?_ _ | refine blk_drew ?_ | refine blk_alloc ?_ _)); refine blk_put (cs := #[.int .i64 t238, .int .i64 t239, .int .i64 t240, .int .i64 0, .bool false, .slice none 0 0]) ?_ 3 _ rfl; (with_reducible repeat (first | refine blk_drewN ?_ _ | refine blk_drew ?_ | refine blk_alloc ?_ _)); refine blk_put (cs := #[.int .i64 t238, .int .i64 t239, .int .i64 0, .int .i64 0, .bool false, .slice none 0 0]) ?_ 2 _ rfl; (with_reducible repeat (first | refine blk_drewN ?_ _ | refine blk_drew ?_ | refine blk_alloc ?_ _)); refine blk_put (cs := #[.int .i64 t238, .int .i64 0, .int .i64 0, .int .i64 0, .bool false, .slice none 0 0]) ?_ 1 _ rfl; (with_reducible repeat (first | refine blk_drewN ?_ _ | refine blk_drew ?_ | refine blk_alloc ?_ _)); refine blk_put (cs := #[.int .i64 0, .int .i64 0, .int .i64 0, .int .i64 0, .bool false, .slice none 0 0]) ?_ 0 _ rfl; (with_reducible repeat (first | refine blk_drewN ?_ _ | refine blk_drew ?_ | refine blk_alloc ?_ _)); exact BK247.out⟩
          have n10_ : Aside0 (Below w.heap.size w ((((((w126.setCell ⟨gb247, 0, none⟩ (.int .i64 t238)).setCell ⟨gb247, 1, none⟩ (.int .i64 t239)).setCell ⟨gb247, 2, none⟩ (.int .i64 t240)).setCell ⟨gb247, 3, none⟩ (.int .i64 t241)).setCell ⟨gb247, 4, none⟩ (.bool t242)).setCell ⟨gb247, 5, none⟩ (.slice Ao133 t243.length co133))) := ⟨by repeat (first | (with_reducible first | exact HB.out | apply below_alloc | apply pw_below_drewN | apply below_drew1 | refine below_set ?_ GE189.out | refine below_set ?_ GE190.out | refine below_set ?_ GE200.out | refine below_set ?_ GE220.out | refine below_set ?_ GE237.out | refine below_set ?_ GE247.out) | exact HB.out)⟩
          (try clear HO_201000)
          (try clear HO_221000)
          (try clear HO235)
          (try clear HO245)
          (try clear BK189)
          (try clear BK190)
          (try clear BK200)
          (try clear BK220)
          (try clear BK237)
          (try clear BK247)
          (try clear HB)
          generalize ((((((w126.setCell ⟨gb247, 0, none⟩ (.int .i64 t238)).setCell ⟨gb247, 1, none⟩ (.int .i64 t239)).setCell ⟨gb247, 2, none⟩ (.int .i64 t240)).setCell ⟨gb247, 3, none⟩ (.int .i64 t241)).setCell ⟨gb247, 4, none⟩ (.bool t242)).setCell ⟨gb247, 5, none⟩ (.slice Ao133 t243.length co133)) = w134 at n0_ n1_ n2_ n3_ n4_ n5_ n6_ n7_ n8_ n9_ n10_ ⊢
          have HO_201000 := n0_
          have HO_221000 := n1_
          have HO235 := n2_
          have HO245 := n3_
          have BK189 := n4_
          have BK190 := n5_
          have BK200 := n6_
          have BK220 := n7_
          have BK237 := n8_
          have BK247 := n9_
          have HB := n10_
          clear n0_ n1_ n2_ n3_ n4_ n5_ n6_ n7_ n8_ n9_ n10_
          have n0_ := Aside0.mk (Kd.V_drew HO_201000.out)
          have n1_ := Aside0.mk (Kd.V_drew HO_221000.out)
          have n2_ := Aside0.mk (Kd.V_drew HO235.out)
          have n3_ := Aside0.mk (Kd.V_drew HO245.out)
          have n4_ := Aside0.mk (blk_drew BK189.out)
          have n5_ := Aside0.mk (blk_drew BK190.out)
          have n6_ := Aside0.mk (blk_drew BK200.out)
          have n7_ := Aside0.mk (blk_drew BK220.out)
          have n8_ := Aside0.mk (blk_drew BK237.out)
          have n9_ := Aside0.mk (blk_drew BK247.out)
          have n10_ := Aside0.mk (below_drew1 HB.out)
          clear HO_201000
          clear HO_221000
          clear HO235
          clear HO245
          clear BK189
          clear BK190
          clear BK200
          clear BK220
          clear BK237
          clear BK247
          clear HB
          have HO_201000 := n0_
          have HO_221000 := n1_
          have HO235 := n2_
          have HO245 := n3_
          have BK189 := n4_
          have BK190 := n5_
          have BK200 := n6_
          have BK220 := n7_
          have BK237 := n8_
          have BK247 := n9_
          have HB := n10_
          clear n0_ n1_ n2_ n3_ n4_ n5_ n6_ n7_ n8_ n9_ n10_
          refine start_ (n := 15) (S := fun w' => True) (ds := []) (bA 15 0) (by kernel_rfl) rfl rfl trivial (fun hHeld => ?_); refine with_tabW mortmainlaw06_StoreSets.tab11 mortmainlaw06_StoreSets.bits11 (fun HT_ HW_ => ?_)
          generalize w134.drew = w135 at HO_201000 HO_221000 HO235 HO245 BK189 BK190 BK200 BK220 BK237 BK247 HB hHeld ⊢
          refine pure_ (i := 0) (N := some 70) (v := ?_) (a' := ?_) (bA 15 1) rfl rfl (an_ HT_.out) (fun _ _ _ h => h) (Or.inl ⟨by rfl, ?_⟩) ?_ ?_
          rotate_left
          ·intro w'
           go_simp
           with_reducible rfl
          rotate_left
          ·simp only [Act.put, q1, q2, q3, i64_w, i32_w]
           rfl
          refine pure_ (i := 1) (N := some 71) (v := ?_) (a' := ?_) (bA 15 3) rfl rfl (an_ HT_.out) (fun _ _ _ h => h) (Or.inl ⟨by rfl, ?_⟩) ?_ ?_
          rotate_left
          ·intro w'
           go_simp
           with_reducible rfl
          rotate_left
          ·simp only [Act.put, q1, q2, q3, i64_w, i32_w]
           rfl
          refine pure_ (i := 2) (N := some 72) (v := ?_) (a' := ?_) (bA 15 7) rfl rfl (an_ HT_.out) (fun _ _ _ h => h) (Or.inl ⟨by rfl, ?_⟩) ?_ ?_
          rotate_left
          ·intro w'
           go_simp
           with_reducible rfl
          rotate_left
          ·simp only [Act.put, q1, q2, q3, i64_w, i32_w]
           rfl
          refine pure_ (i := 3) (N := some 73) (v := ?_) (a' := ?_) (bA 15 15) rfl rfl (an_ HT_.out) (fun _ _ _ h => h) (Or.inl ⟨by rfl, ?_⟩) ?_ ?_
          rotate_left
          ·intro w'
           go_simp
           with_reducible rfl
          rotate_left
          ·simp only [Act.put, q1, q2, q3, i64_w, i32_w]
           rfl
          refine pure_ (i := 4) (N := some 74) (v := ?_) (a' := ?_) (bA 15 31) rfl rfl (an_ HT_.out) (fun _ _ _ h => h) (Or.inl ⟨by rfl, ?_⟩) ?_ ?_
          rotate_left
          ·intro w'
           go_simp
           with_reducible rfl
          rotate_left
          ·simp only [Act.put, q1, q2, q3, i64_w, i32_w]
           rfl
          refine pure_ (i := 5) (N := some 75) (v := ?_) (a' := ?_) (bA 15 63) rfl rfl (an_ HT_.out) (fun _ _ _ h => h) (Or.inl ⟨by rfl, ?_⟩) ?_ ?_
          rotate_left
          ·intro w'
           go_simp
           with_reducible rfl
          rotate_left
          ·simp only [Act.put, q1, q2, q3, i64_w, i32_w]
           rfl
          refine pure_ (i := 6) (N := some 76) (v := ?_) (a' := ?_) (bA 15 127) rfl rfl (an_ HT_.out) (fun _ _ _ h => h) (Or.inl ⟨by rfl, ?_⟩) ?_ ?_
          rotate_left
          ·intro w'
           go_simp
           with_reducible rfl
          rotate_left
          ·simp only [Act.put, q1, q2, q3, i64_w, i32_w]
           rfl
          refine pure_ (i := 7) (N := some 77) (v := undef) (a' := ?_) (bA 15 255) rfl rfl (an_ HT_.out) (fun _ _ _ h => h) (Or.inr ⟨by rfl, rfl⟩) ?_ ?_
          rotate_left
          ·simp only [Act.put, q1, q2, q3, i64_w, i32_w]
           rfl
          refine pure_ (i := 8) (N := some 78) (v := undef) (a' := ?_) (bA 15 511) rfl rfl (an_ HT_.out) (fun _ _ _ h => h) (Or.inr ⟨by rfl, rfl⟩) ?_ ?_
          rotate_left
          ·simp only [Act.put, q1, q2, q3, i64_w, i32_w]
           rfl
          refine pure_ (i := 9) (N := some 79) (v := undef) (a' := ?_) (bA 15 1023) rfl rfl (an_ HT_.out) (fun _ _ _ h => h) (Or.inr ⟨by rfl, rfl⟩) ?_ ?_
          rotate_left
          ·simp only [Act.put, q1, q2, q3, i64_w, i32_w]
           rfl
          refine pure_ (i := 10) (N := some 80) (v := undef) (a' := ?_) (bA 15 2047) rfl rfl (an_ HT_.out) (fun _ _ _ h => h) (Or.inr ⟨by rfl, rfl⟩) ?_ ?_
          rotate_left
          ·simp only [Act.put, q1, q2, q3, i64_w, i32_w]
           rfl
          refine pure_ (i := 11) (N := some 81) (v := undef) (a' := ?_) (bA 15 4095) rfl rfl (an_ HT_.out) (fun _ _ _ h => h) (Or.inr ⟨by rfl, rfl⟩) ?_ ?_
          rotate_left
          ·simp only [Act.put, q1, q2, q3, i64_w, i32_w]
           rfl
          refine pure_ (i := 12) (N := some 82) (v := ?_) (a' := ?_) (bA 15 8191) rfl rfl (an_ HT_.out) (fun _ _ _ h => h) (Or.inl ⟨by rfl, ?_⟩) ?_ ?_
          rotate_left
          ·intro w'
           go_simp
           with_reducible rfl
          rotate_left
          ·simp only [Act.put, q1, q2, q3, i64_w, i32_w]
           rfl
          refine pure_ (i := 13) (N := some 83) (v := ?_) (a' := ?_) (bA 15 16383) rfl rfl (an_ HT_.out) (fun _ _ _ h => h) (Or.inl ⟨by rfl, ?_⟩) ?_ ?_
          rotate_left
          ·intro w'
           go_simp
           with_reducible rfl
          rotate_left
          ·simp only [Act.put, q1, q2, q3, i64_w, i32_w]
           rfl
          refine pure_ (i := 14) (N := some 6) (v := ?_) (a' := ?_) (bA 15 32767) rfl rfl (an_ HT_.out) (fun _ _ _ h => h) (Or.inl ⟨by rfl, ?_⟩) ?_ ?_
          rotate_left
          ·intro w'
           go_simp
           with_reducible rfl
          rotate_left
          ·simp only [Act.put, q1, q2, q3, i64_w, i32_w]
           rfl
          refine done_ (done_of HT_.out (by kernel_rfl)) ?_
          try go_wp2
          go_ret
          exact ⟨by first | rfl | (simp [errW_none, errW_some] <;> rfl) | (simp [*, errW_none, errW_some] <;> rfl), by repeat (first | (with_reducible first | exact HB.out | apply below_alloc | apply pw_below_drewN | apply below_drew1 | refine below_set ?_ GE189.out | refine below_set ?_ GE190.out | refine below_set ?_ GE200.out | refine below_set ?_ GE220.out | refine below_set ?_ GE237.out | refine below_set ?_ GE247.out) | exact HB.out)⟩
        ·rw [if_neg c66] at H
         have c66b0 : (t236 == t246) = false := beq_eq_false_iff_ne.mpr c66
         have c66b1 : (t236 != t246) = true := bne_iff_ne.mpr c66
         exact absurd H (by simp)
       ·replace c63 := Bool.eq_false_iff.mpr c63
        subst c63
        have H1 : (some true) = some r := by rw [if_neg (show ¬ (false = true) by decide)] at H; exact H
        clear H
        have H := H1
        clear H1
        obtain rfl := Option.some.inj H
        have hnb136 := NB220_189.out
        have hnc136 := NB189_220.out
        have hnb137 := NB220_190.out
        have hnc137 := NB190_220.out
        have hnb138 := NB220_200.out
        have hnc138 := NB200_220.out
        have hcz139_0 : wc.cell? ⟨gb220, 0, none⟩ = some (.slice Ao49 t214.length co49) := (blk_cell BK220.out 0).trans rfl
        have hcz139_1 : wc.cell? ⟨gb220, 1, none⟩ = some (.int .i64 t217) := (blk_cell BK220.out 1).trans rfl
        have hcz139_2 : wc.cell? ⟨gb220, 2, none⟩ = some (.int .i64 t218) := (blk_cell BK220.out 2).trans rfl
        have hfz139_0 := blk_frozen BK220.out 0
        have hfz139_1 := blk_frozen BK220.out 1
        have hfz139_2 := blk_frozen BK220.out 2
        go_wp2_with (first | ((with_reducible refine gate_callee (f := 22) rfl ?_); refine goesL_ (some 56) rfl rfl Try.func22 (by kernel_rfl) rfl #[.agg #[.slice Ao49 t214.length co49, .int .i64 t217, .int .i64 t218]] rfl mT ?_; (with_reducible refine (mortmainref06_Right.calls kj29 _ _ t214 t217 t218 false _ ?side1 ?side2 A62.out).mono ?_); (case side1 => repeat (first | exact (Kd.V_reads' HO_221000.out).2.2 | (with_reducible refine Kd.C_alloc ?_ _) | (with_reducible refine Kd.C_drewN ?_ _) | (with_reducible refine Kd.C_drew ?_))); (case side2 => exact (Kd.V_reads' HO_221000.out).2.1); rintro e w140 ⟨rfl, hb⟩; refine ⟨_, rfl, ?_⟩; have n0_ := Aside0.mk (Kd.V_below (by (with_reducible repeat (first | apply Kd.V_alloc | apply Kd.V_drewN | apply Kd.V_drew)); exact HO_201000.out) hb); have n1_ := Aside0.mk (Kd.V_below (by (with_reducible repeat (first | apply Kd.V_alloc | apply Kd.V_drewN | apply Kd.V_drew)); exact HO_221000.out) hb); have n2_ := Aside0.mk (blk_below (g := gb189) (o := .cells #[.slice A0_0 l0_0.length c0_0, .int .i64 a0_1, .int .i64 a0_2] 26 (0, 0)) (kT BK189.out) hb); have n3_ := Aside0.mk (blk_below (g := gb190) (o := .cells #[.int .i64 a2_0, .int .i64 a2_1, .int .i64 a2_2, .int .i64 a2_3, .bool a2_4, .slice A2_5 l2_5.length c2_5] 29 (0, 0)) (kT BK190.out) hb); have n4_ := Aside0.mk (blk_below (g := gb200) (o := .cells #[.slice Ao36 t194.length co36, .int .i64 t197, .int .i64 t198] 26 (0, 0)) (kT BK200.out) hb); have n5_ := Aside0.mk (blk_below (g := gb220) (o := .cells #[.slice Ao49 t214.length co49, .int .i64 t217, .int .i64 t218] 37 (0, 0)) (kT BK220.out) hb); have n6_ := Aside0.mk (below_step (by repeat (first | (with_reducible first | exact HB.out | apply below_alloc | apply pw_below_drewN | apply below_drew1 | refine below_set ?_ GE189.out | refine below_set ?_ GE190.out | refine below_set ?_ GE200.out | refine below_set ?_ GE220.out) | exact HB.out)) hb); clear HO_201000; clear HO_221000; clear BK189; clear BK190; clear BK200; clear BK220; clear HB; have HO_201000 := n0_; have HO_221000 := n1_; have BK189 := n2_; have BK190 := n3_; have BK200 := n4_; have BK220 := n5_; have HB := n6_; clear n0_ n1_ n2_ n3_ n4_ n5_ n6_; (try clear hb); (try clear hb2); (try clear hk); (try clear hi)))
        go_ret
        exact ⟨by first | rfl | (simp [errW_none, errW_some] <;> rfl) | (simp [*, errW_none, errW_some] <;> rfl), by repeat (first | (with_reducible first | exact HB.out | apply below_alloc | apply pw_below_drewN | apply below_drew1 | refine below_set ?_ GE189.out | refine below_set ?_ GE190.out | refine below_set ?_ GE200.out | refine below_set ?_ GE220.out) | exact HB.out)⟩
end Go.Proofs.Ytkmjboeabmmecaa.MAll
