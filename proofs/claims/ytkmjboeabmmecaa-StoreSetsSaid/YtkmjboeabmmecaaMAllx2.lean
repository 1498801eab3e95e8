/- The functions that the law reaches in plain Lean, and that the calls come to what these say. No condition. (By wip/myprint.py, this session's program over the kit's print.) -/
import Derived.Test.YtkmjboeabmmecaaMAllx0
namespace Go.Proofs.Ytkmjboeabmmecaa.MAll
open Go.RowKit Go.Proofs.YtkmjboeabmmecaaW.PrintWords Go.Proofs.YtkmjboeabmmecaaW.PrintLast Go.Proofs.YtkmjboeabmmecaaW.PrintMore
attribute [local go_sem] max2_int min2_int max_two min_two max_three min_three max_four min_four
set_option linter.unusedVariables false
set_option linter.unusedSimpArgs false
def mortmainref06_Plain.l0 : Nat → Int → List (S84) → Int → Int → List (S120) → Int → Option ((List (S120)) × Int)
 | 0, _, _, _, _, _, _ => none
 | k + 1, x4, x122000, x122001, x122002, x124000, x124001 => if x4 < (x122000.length : Int) then (if 0 ≤ x4 then (if x124000.length < 5864062014805 then (mortmainref06_Plain.l0 k (wrap64 (x4 + 1)) x122000 x122001 x122002 (x124000 ++ [(⟨(rd_T84 x122000 x4).f0, (rd_T84 x122000 x4).f1, x4⟩ : S120)]) x124001) else (none)) else (none)) else (some (x124000, x124001))
def mortmainref06_Plain.f (k : Nat) (l0_0 : List (S84)) (a0_1 : Int) (a0_2 : Int) : Option ((List (S120)) × Int) := mortmainref06_Plain.l0 k 0 l0_0 a0_1 a0_2 ([] : List (S120)) a0_1
theorem mortmainref06_Plain.mono_l : ∀ k, (∀ y0 y1 y2 y3 y4 y5, LeO (mortmainref06_Plain.l0 k y0 y1 y2 y3 y4 y5) (mortmainref06_Plain.l0 (k + 1) y0 y1 y2 y3 y4 y5))
 | 0 => fun _ _ _ _ _ _ r h => by simp [mortmainref06_Plain.l0] at h
 | k + 1 => by
  have ih0 := mortmainref06_Plain.mono_l k
  ·intro y0 y1 y2 y3 y4 y5
   unfold mortmainref06_Plain.l0
   repeat' first
   | (with_reducible exact ih0 _ _ _ _ _ _)
   | (with_reducible exact LeO.refl _)
   | (with_reducible exact LeO.none _)
   | (with_reducible refine LeO.ite ?_ ?_)
   | (with_reducible refine LeO.bind ?_ (fun _ => ?_))
   | exact ih0 _ _ _ _ _ _
   | exact LeO.none _
   | refine LeO.ite ?_ ?_
   | refine LeO.bind ?_ (fun _ => ?_)
theorem mortmainref06_Plain.mono : ∀ a0 a1 a2 k, LeO (mortmainref06_Plain.f k a0 a1 a2) (mortmainref06_Plain.f (k + 1) a0 a1 a2) := by
 intro a0 a1 a2 k
 have ih0 := mortmainref06_Plain.mono_l k
 unfold mortmainref06_Plain.f
 repeat' first
   | (with_reducible exact ih0 _ _ _ _ _ _)
   | (with_reducible exact LeO.refl _)
   | (with_reducible exact LeO.none _)
   | (with_reducible refine LeO.ite ?_ ?_)
   | (with_reducible refine LeO.bind ?_ (fun _ => ?_))
   | exact ih0 _ _ _ _ _ _
   | exact LeO.none _
   | refine LeO.ite ?_ ?_
   | refine LeO.bind ?_ (fun _ => ?_)
def mortmainref06_Plain.T5 : Bool × List (List Nat × List Nat) := (true, [([], []), ([0], [0]), ([], []), ([2], [2]), ([], []), ([3, 4], [3, 4]), ([5], [5]), ([6], [6]), ([], []), ([8], [8]), ([], []), ([9, 10], [9, 10]), ([11], [11]), ([12], [12]), ([], []), ([7, 13, 14], [7, 13, 14]), ([15], [15]), ([1, 16], [1, 16]), ([0, 1, 2, 3, 4, 5, 6, 7, 8, 9, 10, 11, 12, 13, 14, 15, 16, 17], []), ([18, 17, 17, 0, 1, 2, 3, 4, 5, 6, 7, 8, 9, 10, 11, 12, 13, 14, 15, 16, 17], [17, 18])])
def mortmainref06_Plain.B5 : List Nat := [0, 1, 0, 4, 0, 28, 60, 124, 0, 256, 0, 1792, 3840, 7936, 0, 32764, 65532, 131071, 262143, 524287]
theorem mortmainref06_Plain.tab5 : rtab .any (opsOf Try.f57 5) = mortmainref06_Plain.T5 := by kernel_rfl
theorem mortmainref06_Plain.bits5 : waitsOk mortmainref06_Plain.T5.2 mortmainref06_Plain.B5 = true := by kernel_rfl
set_option maxHeartbeats 8000000 in
set_option maxRecDepth 100000 in
theorem mortmainref06_Plain.calls (k : Nat) (A0_0 : Option Addr) (c0_0 : Nat) (l0_0 : List (S84)) (a0_1 : Int) (a0_2 : Int) (r1 : List (S120)) (r2 : Int) (w : World) (hr0_0 : Kd.C k84 w A0_0 l0_0.length l0_0) (hc0_0 : l0_0.length ≤ c0_0) (h : mortmainref06_Plain.f k l0_0 a0_1 a0_2 = some (r1, r2)) :
  Calls Try.prog 57 #[.agg #[.slice A0_0 l0_0.length c0_0, .int .i64 a0_1, .int .i64 a0_2]] w fun e w' => ∃ v0_ : Value, e = .returned (.agg #[v0_, .int .i64 r2]) ∧ Kd.R k120 120 w' w.heap.size (fun _ => True) v0_ r1 ∧ Below w.heap.size w w' := by
 have hu37 := Try.underlying37
 have hu78 := Try.underlying78
 have hu120 := Try.underlying120
 have HR0_0 := Aside0.mk hr0_0
 have HC0_0 := Aside0.mk hc0_0
 clear hr0_0 hc0_0
 have HB := Aside0.mk (Below.refl w.heap.size w)
 have H : (mortmainref06_Plain.l0 k 0 l0_0 a0_1 a0_2 ([] : List (S120)) a0_1) = some (r1, r2) := h
 clear h
 have H' := Aside0.mk H
 clear H
 go_enter Try.func57, Try.ntmps57
 go_wp2_with (first | ((with_reducible refine gate_dst (N := 1) rfl ?_); refine box_event ?hg (N := 1) ?hd (cs := #[.slice A0_0 l0_0.length c0_0, .int .i64 a0_1, .int .i64 a0_2]) (t := 37) ?hr ?_; (case hd => rfl); (case hg => rfl); (case hr => first | (go_simp; done) | (go_simp; rfl)); intro gb121 hg w2 hbox hb; have n0_ := Aside0.mk (below_step bT hb); have n1_ := Aside0.mk (hbox); have n2_ := Aside0.mk (gT hg bT); have n3_ := Aside0.mk (gT hg bT); clear HB; have HB := n0_; have BK121 := n1_; have GW121 := n2_; have GE121 := n3_; clear n0_ n1_ n2_ n3_; clear hb hbox hg) | ((with_reducible refine gate_dst (N := 2) rfl ?_); refine box_event ?hg (N := 2) ?hd (cs := #[.slice none 0 0, .int .i64 0]) (t := 78) ?hr ?_; (case hd => rfl); (case hg => rfl); (case hr => first | (go_simp; done) | (go_simp; rfl)); intro gb122 hg w3 hbox hb; have n0_ := Aside0.mk (blk_below (g := gb121) (o := .cells #[.slice A0_0 l0_0.length c0_0, .int .i64 a0_1, .int .i64 a0_2] 37 (0, 0)) (kT BK121.out) hb); have n1_ := Aside0.mk (below_step (bG GE121.out) hb); have n2_ := Aside0.mk (hbox); have n3_ := Aside0.mk (gT hg (bG GE121.out)); have n4_ := Aside0.mk (gT hg (bG GE121.out)); have n5_ := Aside0.mk ((by rw [hg]; exact Nat.ne_of_lt (blk_lt (g := gb121) (o := .cells #[.slice A0_0 l0_0.length c0_0, .int .i64 a0_1, .int .i64 a0_2] 37 (0, 0)) (kT BK121.out)) : gb121 ≠ gb122)); have n6_ := Aside0.mk ((by rw [hg]; exact Nat.ne_of_gt (blk_lt (g := gb121) (o := .cells #[.slice A0_0 l0_0.length c0_0, .int .i64 a0_1, .int .i64 a0_2] 37 (0, 0)) (kT BK121.out)) : gb122 ≠ gb121)); clear BK121; clear HB; have BK121 := n0_; have HB := n1_; have BK122 := n2_; have GW122 := n3_; have GE122 := n4_; have NB121_122 := n5_; have NB122_121 := n6_; clear n0_ n1_ n2_ n3_ n4_ n5_ n6_; clear hb hbox hg; have hnb4 := NB121_122.out; have hnc4 := NB122_121.out; have hcz5_0 : w3.cell? ⟨gb121, 0, none⟩ = some (.slice A0_0 l0_0.length c0_0) := (blk_cell BK121.out 0).trans rfl; have hcz5_1 : w3.cell? ⟨gb121, 1, none⟩ = some (.int .i64 a0_1) := (blk_cell BK121.out 1).trans rfl; have hcz5_2 : w3.cell? ⟨gb121, 2, none⟩ = some (.int .i64 a0_2) := (blk_cell BK121.out 2).trans rfl; have hfz5_0 := blk_frozen BK121.out 0; have hfz5_1 := blk_frozen BK121.out 1; have hfz5_2 := blk_frozen BK121.out 2) | ((with_reducible refine gate_dst (N := 3) rfl ?_); refine box_event ?hg (N := 3) ?hd (cs := #[.slice none 0 0, .int .i64 0]) (t := 78) ?hr ?_; (case hd => rfl); (case hg => rfl); (case hr => first | (go_simp; done) | (go_simp; rfl)); intro gb123 hg w6 hbox hb; have n0_ := Aside0.mk (blk_below (g := gb121) (o := .cells #[.slice A0_0 l0_0.length c0_0, .int .i64 a0_1, .int .i64 a0_2] 37 (0, 0)) (kT BK121.out) hb); have n1_ := Aside0.mk (blk_below (g := gb122) (o := .cells #[.slice none 0 0, .int .i64 0] 78 (0, 0)) (kT BK122.out) hb); have n2_ := Aside0.mk (below_step (bH GE121.out GE122.out) hb); have n3_ := Aside0.mk (hbox); have n4_ := Aside0.mk (gT hg (bH GE121.out GE122.out)); have n5_ := Aside0.mk (gT hg (bH GE121.out GE122.out)); have n6_ := Aside0.mk ((by rw [hg]; exact Nat.ne_of_lt (blk_lt (g := gb121) (o := .cells #[.slice A0_0 l0_0.length c0_0, .int .i64 a0_1, .int .i64 a0_2] 37 (0, 0)) (kT BK121.out)) : gb121 ≠ gb123)); have n7_ := Aside0.mk ((by rw [hg]; exact Nat.ne_of_gt (blk_lt (g := gb121) (o := .cells #[.slice A0_0 l0_0.length c0_0, .int .i64 a0_1, .int .i64 a0_2] 37 (0, 0)) (kT BK121.out)) : gb123 ≠ gb121)); have n8_ := Aside0.mk ((by rw [hg]; exact Nat.ne_of_lt (blk_lt (g := gb122) (o := .cells #[.slice none 0 0, .int .i64 0] 78 (0, 0)) (kT BK122.out)) : gb122 ≠ gb123)); have n9_ := Aside0.mk ((by rw [hg]; exact Nat.ne_of_gt (blk_lt (g := gb122) (o := .cells #[.slice none 0 0, .int .i64 0] 78 (0, 0)) (kT BK122.out)) : gb123 ≠ gb122)); clear BK121; clear BK122; clear HB; have BK121 := n0_; have BK122 := n1_; have HB := n2_; have BK123 := n3_; have GW123 := n4_; have GE123 := n5_; have NB121_123 := n6_; have NB123_121 := n7_; have NB122_123 := n8_; have NB123_122 := n9_; clear n0_ n1_ n2_ n3_ n4_ n5_ n6_ n7_ n8_ n9_; clear hb hbox hg; have hnb7 := NB123_121.out; have hnc7 := NB121_123.out; have hnb8 := NB123_122.out; have hnc8 := NB122_123.out; have hcz9_0 : w6.cell? ⟨gb123, 0, none⟩ = some (.slice none 0 0) := (blk_cell BK123.out 0).trans rfl; have hcz9_1 : w6.cell? ⟨gb123, 1, none⟩ = some (.int .i64 0) := (blk_cell BK123.out 1).trans rfl; have hfz9_0 := blk_frozen BK123.out 0; have hfz9_1 := blk_frozen BK123.out 1))
 go_loopg [4] k (fun kq v4 w' => ∃ (x4_1 : Int) (x124000_1 : List (S120)) (u124000 : Value), v4 = .int .i64 x4_1 ∧ Aside0 (mortmainref06_Plain.l0 kq x4_1 l0_0 a0_1 a0_2 x124000_1 a0_1 = some (r1, r2)) ∧ Aside0 (kq ≤ k) ∧ Aside0 (Kd.R k120 120 w' w.heap.size (fun _ => True) u124000 x124000_1) ∧ Aside0 (w'.heap[gb121]? = some (.cells #[(.slice A0_0 l0_0.length c0_0), .int .i64 a0_1, .int .i64 a0_2] 37 (0, 0))) ∧ Aside0 (w'.heap[gb122]? = some (.cells #[(.slice none 0 0), .int .i64 0] 78 (0, 0))) ∧ Aside0 (w'.heap[gb123]? = some (.cells #[u124000, .int .i64 a0_1] 78 (0, 0))) ∧ Aside0 (Below w.heap.size w w'))
 case atStart => exact ⟨(0), (([] : List (S120))), (.slice none 0 0), (by first | rfl | (simp; done) | (simp [*]; done)), H', ⟨Nat.le_refl _⟩, ⟨by first | exact Kd.R_nil _ _ _ _ _ | exact Kd.N_nil _ _ _ _ _ | exact Kd.V_nil _ _ _ _ _ | exact Kd.Q_nil _ _ _ _ _ | exact Kd.S_nil _ _ _ _ _⟩, ⟨by (with_reducible repeat (first | refine blk_drewN ?_ _ | refine blk_drew ?_ | refine blk_alloc ?_ _)); refine blk_far ?_ NB121_123.out _; (with_reducible repeat (first | refine blk_drewN ?_ _ | refine blk_drew ?_ | refine blk_alloc ?_ _)); refine blk_far ?_ NB121_123.out _; (with_reducible repeat (first | refine blk_drewN ?_ _ | refine blk_drew ?_ | refine blk_alloc ?_ _)); exact BK121.out⟩, ⟨by (with_reducible repeat (first | refine blk_drewN ?_ _ | refine blk_drew ?_ | refine blk_alloc ?_ _)); refine blk_far ?_ NB122_123.out _; (with_reducible repeat (first | refine blk_drewN ?_ _ | refine blk_drew ?_ | refine blk_alloc ?_ _)); refine blk_far ?_ NB122_123.out _; (with_reducible repeat (first | refine blk_drewN ?_ _ | refine blk_drew ?_ | refine blk_alloc ?_ _)); exact BK122.out⟩, ⟨by (with_reducible repeat (first | refine blk_drewN ?_ _ | refine blk_drew ?_ | refine blk_alloc ?_ _)); refine blk_put (cs := #[.slice none 0 0, .int .i64 0]) ?_ 1 _ rfl; (with_reducible repeat (first | refine blk_drewN ?_ _ | refine blk_drew ?_ | refine blk_alloc ?_ _)); refine blk_put (cs := #[.slice none 0 0, .int .i64 0]) ?_ 0 _ rfl; (with_reducible repeat (first | refine blk_drewN ?_ _ | refine blk_drew ?_ | refine blk_alloc ?_ _)); exact BK123.out⟩, ⟨by repeat (first | (with_reducible first | exact HB.out | apply below_alloc | apply pw_below_drewN | apply below_drew1 | refine below_set ?_ GE121.out | refine below_set ?_ GE122.out | refine below_set ?_ GE123.out) | exact HB.out)⟩⟩
 case round =>
  clear H'
  try clear p2
  try clear c4
  try clear c5
  try clear c7
  try clear c8
  try clear hcz5_0
  try clear hcz5_1
  try clear hcz5_2
  try clear hcz9_0
  try clear hcz9_1
  try clear hfz5_0
  try clear hfz5_1
  try clear hfz5_2
  try clear hfz9_0
  try clear hfz9_1
  obtain ⟨x4_1, x124000_1, u124000, rfl, HA, HK1, HO_124000, BK121, BK122, BK123, HB⟩ := hrel
  cases gk with
  | zero => exact absurd HA.out (by simp [mortmainref06_Plain.l0])
  | succ k1 =>
   have H := HA.out
   clear HA
   simp only [mortmainref06_Plain.l0] at H
   by_cases c10 : x4_1 < (l0_0.length : Int)
   ·rw [if_pos c10] at H
    have c10b0 : decide (x4_1 < (l0_0.length : Int)) = true := decide_eq_true c10
    clear c10
    by_cases c11 : 0 ≤ x4_1
    ·rw [if_pos c11] at H
     have c11b0 : decide (0 ≤ x4_1) = true := decide_eq_true c11
     clear c11
     by_cases c12 : x124000_1.length < 5864062014805
     ·rw [if_pos c12] at H
      have LMc12 := Aside0.mk c12
      clear c12
      obtain ⟨y126, hy126⟩ : ∃ y_ : List (S120), y_ = (x124000_1 ++ [(⟨(rd_T84 l0_0 x4_1).f0, (rd_T84 l0_0 x4_1).f1, x4_1⟩ : S120)]) := ⟨_, rfl⟩
      replace H : (mortmainref06_Plain.l0 k1 (wrap64 (x4_1 + 1)) l0_0 a0_1 a0_2 y126 a0_1) = some (r1, r2) := by first | (rw [hy126]; with_reducible exact H) | (have H2_ := (Option.bind_some _ _).symm.trans H; rw [hy126]; with_reducible exact H2_) | (have H2_ := (Option.bind_some _ _).symm.trans H; with_reducible exact H2_) | with_reducible exact H | (rw [hy126]; exact H) | exact H
      have Ny126 := Aside0.mk hy126
      clear hy126
      have H' := Aside0.mk H
      clear H
      have hnb13 := NB121_122.out
      have hnc13 := NB122_121.out
      have hnb14 := NB121_123.out
      have hnc14 := NB123_121.out
      have hcz15_0 : wr.cell? ⟨gb121, 0, none⟩ = some (.slice A0_0 l0_0.length c0_0) := (blk_cell BK121.out 0).trans rfl
      have hcz15_1 : wr.cell? ⟨gb121, 1, none⟩ = some (.int .i64 a0_1) := (blk_cell BK121.out 1).trans rfl
      have hcz15_2 : wr.cell? ⟨gb121, 2, none⟩ = some (.int .i64 a0_2) := (blk_cell BK121.out 2).trans rfl
      have hfz15_0 := blk_frozen BK121.out 0
      have hfz15_1 := blk_frozen BK121.out 1
      have hfz15_2 := blk_frozen BK121.out 2
      try go_wp2
      have n0_ := Aside0.mk (Kd.R_drew HO_124000.out)
      have n1_ := Aside0.mk (blk_drew BK121.out)
      have n2_ := Aside0.mk (blk_drew BK122.out)
      have n3_ := Aside0.mk (blk_drew BK123.out)
      have n4_ := Aside0.mk (below_drew1 HB.out)
      clear HO_124000
      clear BK121
      clear BK122
      clear BK123
      clear HB
      have HO_124000 := n0_
      have BK121 := n1_
      have BK122 := n2_
      have BK123 := n3_
      have HB := n4_
      clear n0_ n1_ n2_ n3_ n4_
      have p124 : 0 ≤ (x4_1 : Int) := oT
      have q124 : x4_1 < (l0_0.length : Int) := oT
      obtain ⟨ad124, A124_7, c124_7, e124, hx124_0, hx124_1, hx124_2, hx124_3, hx124_4, hx124_5, hx124_6, hx124_7, hl124_7, hi124_7⟩ := at_T84 HR0_0.out x4_1 p124 q124
      have hw124_7 := hx124_7
      have hw124_6 := hx124_6
      have hw124_5 := hx124_5
      have hw124_4 := hx124_4
      have hw124_3 := hx124_3
      have hw124_2 := hx124_2
      have hw124_1 := hx124_1
      have hw124_0 := hx124_0
      cases e124
      replace hx124_0 := cT HB.out hx124_0
      replace hx124_1 := cT HB.out hx124_1
      replace hx124_2 := cT HB.out hx124_2
      replace hx124_3 := cT HB.out hx124_3
      replace hx124_4 := cT HB.out hx124_4
      replace hx124_5 := cT HB.out hx124_5
      replace hx124_6 := cT HB.out hx124_6
      replace hx124_7 := cT HB.out hx124_7
      have HR124_7 := Aside0.mk hi124_7
      have HC124_7 := Aside0.mk hl124_7
      clear hi124_7 hl124_7
      replace p124 := eq_true p124
      replace q124 := eq_true q124
      have p125 : 0 ≤ (x4_1 : Int) := oT
      have q125 : x4_1 < (l0_0.length : Int) := oT
      obtain ⟨ad125, A125_7, c125_7, e125, hx125_0, hx125_1, hx125_2, hx125_3, hx125_4, hx125_5, hx125_6, hx125_7, hl125_7, hi125_7⟩ := at_T84 HR0_0.out x4_1 p125 q125
      have hw125_7 := hx125_7
      have hw125_6 := hx125_6
      have hw125_5 := hx125_5
      have hw125_4 := hx125_4
      have hw125_3 := hx125_3
      have hw125_2 := hx125_2
      have hw125_1 := hx125_1
      have hw125_0 := hx125_0
      obtain rfl : ad124 = ad125 := (by injection e125)
      replace hx125_0 := cT HB.out hx125_0
      replace hx125_1 := cT HB.out hx125_1
      replace hx125_2 := cT HB.out hx125_2
      replace hx125_3 := cT HB.out hx125_3
      replace hx125_4 := cT HB.out hx125_4
      replace hx125_5 := cT HB.out hx125_5
      replace hx125_6 := cT HB.out hx125_6
      replace hx125_7 := cT HB.out hx125_7
      have HR125_7 := Aside0.mk hi125_7
      have HC125_7 := Aside0.mk hl125_7
      clear hi125_7 hl125_7
      replace p125 := eq_true p125
      replace q125 := eq_true q125
      have ea_ := Option.some.inj (hx124_7.symm.trans hx125_7)
      injection ea_ with ea_ en_ ec_
      subst ea_
      subst ec_
      clear en_
      refine start_ (n := 20) (S := fun w' => w'.cell? ⟨gb123, 0, none⟩ = some (u124000) ∧ w'.cell? ⟨gb123, 1, none⟩ = some (.int .i64 a0_1) ∧ w'.cell? ⟨gb121, 0, none⟩ = some (.slice (some ad124) l0_0.length c0_0) ∧ w'.cell? ⟨gb121, 1, none⟩ = some (.int .i64 a0_1) ∧ w'.cell? ⟨gb121, 2, none⟩ = some (.int .i64 a0_2) ∧ w'.cell? (ad124.add ((x4_1).toNat * 8)) = some (.int .i64 ((rd_T84 l0_0 x4_1).f0)) ∧ w'.cell? ⟨(ad124.add ((x4_1).toNat * 8)).block, (ad124.add ((x4_1).toNat * 8)).off + 1, none⟩ = some (.int .i64 ((rd_T84 l0_0 x4_1).f1)) ∧ w'.cell? ⟨(ad124.add ((x4_1).toNat * 8)).block, (ad124.add ((x4_1).toNat * 8)).off + 2, none⟩ = some (.int .i64 ((rd_T84 l0_0 x4_1).f2.f0)) ∧ w'.cell? ⟨(ad124.add ((x4_1).toNat * 8)).block, (ad124.add ((x4_1).toNat * 8)).off + 3, none⟩ = some (.int .i64 ((rd_T84 l0_0 x4_1).f2.f1)) ∧ w'.cell? ⟨(ad124.add ((x4_1).toNat * 8)).block, (ad124.add ((x4_1).toNat * 8)).off + 4, none⟩ = some (.int .i64 ((rd_T84 l0_0 x4_1).f2.f2)) ∧ w'.cell? ⟨(ad124.add ((x4_1).toNat * 8)).block, (ad124.add ((x4_1).toNat * 8)).off + 5, none⟩ = some (.int .i64 ((rd_T84 l0_0 x4_1).f2.f3)) ∧ w'.cell? ⟨(ad124.add ((x4_1).toNat * 8)).block, (ad124.add ((x4_1).toNat * 8)).off + 6, none⟩ = some (.bool ((rd_T84 l0_0 x4_1).f2.f4)) ∧ w'.cell? ⟨(ad124.add ((x4_1).toNat * 8)).block, (ad124.add ((x4_1).toNat * 8)).off + 7, none⟩ = some (.slice A124_7 ((rd_T84 l0_0 x4_1).f2.f5).length c124_7) ∧ w'.cell? (ad124.add ((x4_1).toNat * 8)) = some (.int .i64 ((rd_T84 l0_0 x4_1).f0)) ∧ w'.cell? ⟨(ad124.add ((x4_1).toNat * 8)).block, (ad124.add ((x4_1).toNat * 8)).off + 1, none⟩ = some (.int .i64 ((rd_T84 l0_0 x4_1).f1)) ∧ w'.cell? ⟨(ad124.add ((x4_1).toNat * 8)).block, (ad124.add ((x4_1).toNat * 8)).off + 2, none⟩ = some (.int .i64 ((rd_T84 l0_0 x4_1).f2.f0)) ∧ w'.cell? ⟨(ad124.add ((x4_1).toNat * 8)).block, (ad124.add ((x4_1).toNat * 8)).off + 3, none⟩ = some (.int .i64 ((rd_T84 l0_0 x4_1).f2.f1)) ∧ w'.cell? ⟨(ad124.add ((x4_1).toNat * 8)).block, (ad124.add ((x4_1).toNat * 8)).off + 4, none⟩ = some (.int .i64 ((rd_T84 l0_0 x4_1).f2.f2)) ∧ w'.cell? ⟨(ad124.add ((x4_1).toNat * 8)).block, (ad124.add ((x4_1).toNat * 8)).off + 5, none⟩ = some (.int .i64 ((rd_T84 l0_0 x4_1).f2.f3)) ∧ w'.cell? ⟨(ad124.add ((x4_1).toNat * 8)).block, (ad124.add ((x4_1).toNat * 8)).off + 6, none⟩ = some (.bool ((rd_T84 l0_0 x4_1).f2.f4)) ∧ w'.cell? ⟨(ad124.add ((x4_1).toNat * 8)).block, (ad124.add ((x4_1).toNat * 8)).off + 7, none⟩ = some (.slice A124_7 ((rd_T84 l0_0 x4_1).f2.f5).length c124_7)) (ds := [19]) (bA 20 0) (by kernel_rfl) rfl rfl ⟨(blk_cell BK123.out 0).trans rfl, (blk_cell BK123.out 1).trans rfl, (blk_cell BK121.out 0).trans rfl, (blk_cell BK121.out 1).trans rfl, (blk_cell BK121.out 2).trans rfl, (cT HB.out hw124_0), (cT HB.out hw124_1), (cT HB.out hw124_2), (cT HB.out hw124_3), (cT HB.out hw124_4), (cT HB.out hw124_5), (cT HB.out hw124_6), (cT HB.out hw124_7), (cT HB.out hw125_0), (cT HB.out hw125_1), (cT HB.out hw125_2), (cT HB.out hw125_3), (cT HB.out hw125_4), (cT HB.out hw125_5), (cT HB.out hw125_6), (cT HB.out hw125_7)⟩ (fun hHeld => ?_); refine with_tabW mortmainref06_Plain.tab5 mortmainref06_Plain.bits5 (fun HT_ HW_ => ?_)
      generalize wr.drew = w16 at HO_124000 BK121 BK122 BK123 HB HR124_7 HR125_7 hx124_0 hx124_1 hx124_2 hx124_3 hx124_4 hx124_5 hx124_6 hx124_7 hx125_0 hx125_1 hx125_2 hx125_3 hx125_4 hx125_5 hx125_6 hx125_7 hHeld ⊢
      refine pure_ (i := 0) (N := some 15) (v := ?_) (a' := ?_) (bA 20 1) rfl rfl (an_ HT_.out) (fun _ _ _ h => h) (Or.inl ⟨by rfl, ?_⟩) ?_ ?_
      rotate_left
      ·intro w'
       go_simp
       with_reducible rfl
      rotate_left
      ·simp only [Act.put, q1, q2, q3, i64_w, i32_w]
       rfl
      refine pure_ (i := 2) (N := some 17) (v := ?_) (a' := ?_) (bA 20 5) rfl rfl (an_ HT_.out) (fun _ _ _ h => h) (Or.inl ⟨by rfl, ?_⟩) ?_ ?_
      rotate_left
      ·intro w'
       go_simp
       with_reducible rfl
      rotate_left
      ·simp only [Act.put, q1, q2, q3, i64_w, i32_w]
       rfl
      refine pure_ (i := 4) (N := some 19) (v := ?_) (a' := ?_) (bA 20 21) rfl rfl (an_ HT_.out) (fun _ _ _ h => h) (Or.inl ⟨by rfl, ?_⟩) ?_ ?_
      rotate_left
      ·intro w'
       go_simp
       with_reducible rfl
      rotate_left
      ·simp only [Act.put, q1, q2, q3, i64_w, i32_w]
       rfl
      refine pure_ (i := 8) (N := some 23) (v := ?_) (a' := ?_) (bA 20 277) rfl rfl (an_ HT_.out) (fun _ _ _ h => h) (Or.inl ⟨by rfl, ?_⟩) ?_ ?_
      rotate_left
      ·intro w'
       go_simp
       with_reducible rfl
      rotate_left
      ·simp only [Act.put, q1, q2, q3, i64_w, i32_w]
       rfl
      refine pure_ (i := 10) (N := some 25) (v := ?_) (a' := ?_) (bA 20 1301) rfl rfl (an_ HT_.out) (fun _ _ _ h => h) (Or.inl ⟨by rfl, ?_⟩) ?_ ?_
      rotate_left
      ·intro w'
       go_simp
       with_reducible rfl
      rotate_left
      ·simp only [Act.put, q1, q2, q3, i64_w, i32_w]
       rfl
      refine pure_ (i := 14) (N := some 29) (v := ?_) (a' := ?_) (bA 20 17685) rfl rfl (an_ HT_.out) (fun _ _ _ h => h) (Or.inl ⟨by rfl, ?_⟩) ?_ ?_
      rotate_left
      ·intro w'
       go_simp
       with_reducible rfl
      rotate_left
      ·simp only [Act.put, q1, q2, q3, i64_w, i32_w]
       rfl
      refine take_ (i := 1) (N := some 16) (v := ?_) (a' := ?_) (bA 20 17687) rfl rfl (tw_ HT_.out HW_.out) (fun _ _ _ h => h) (Or.inl ⟨by rfl, ?_⟩) hHeld ?_ ?_
      rotate_left
      ·rintro w' ⟨s0, s1, s2, s3, s4, s5, s6, s7, s8, s9, s10, s11, s12, s13, s14, s15, s16, s17, s18, s19, s20⟩
       try simp only [Int.toNat_natCast] at s0 s1 s2 s3 s4 s5 s6 s7 s8 s9 s10 s11 s12 s13 s14 s15 s16 s17 s18 s19 s20
       go_simp
       with_reducible rfl
      rotate_left
      ·simp only [Act.put, q1, q2, q3, i64_w, i32_w]
       rfl
      refine take_ (i := 3) (N := some 18) (v := ?_) (a' := ?_) (bA 20 17695) rfl rfl (tw_ HT_.out HW_.out) (fun _ _ _ h => h) (Or.inl ⟨by rfl, ?_⟩) hHeld ?_ ?_
      rotate_left
      ·rintro w' ⟨s0, s1, s2, s3, s4, s5, s6, s7, s8, s9, s10, s11, s12, s13, s14, s15, s16, s17, s18, s19, s20⟩
       try simp only [Int.toNat_natCast] at s0 s1 s2 s3 s4 s5 s6 s7 s8 s9 s10 s11 s12 s13 s14 s15 s16 s17 s18 s19 s20
       go_simp
       with_reducible rfl
      rotate_left
      ·simp only [Act.put, q1, q2, q3, i64_w, i32_w]
       rfl
      refine pure_ (i := 5) (N := some 20) (v := ?_) (a' := ?_) (bA 20 17727) rfl rfl (an_ HT_.out) (fun _ _ _ h => h) (Or.inl ⟨by rfl, ?_⟩) ?_ ?_
      rotate_left
      ·intro w'
       go_simp
       with_reducible rfl
      rotate_left
      ·simp only [Act.put, q1, q2, q3, i64_w, i32_w]
       rfl
      refine pure_ (i := 6) (N := some 21) (v := ?_) (a' := ?_) (bA 20 17791) rfl rfl (an_ HT_.out) (fun _ _ _ h => h) (Or.inl ⟨by rfl, ?_⟩) ?_ ?_
      rotate_left
      ·intro w'
       go_simp
       with_reducible rfl
      rotate_left
      ·simp only [Act.put, q1, q2, q3, i64_w, i32_w]
       rfl
      refine take_ (i := 7) (N := some 22) (v := ?_) (a' := ?_) (bA 20 17919) rfl rfl (tw_ HT_.out HW_.out) (fun _ _ _ h => h) (Or.inl ⟨by rfl, ?_⟩) hHeld ?_ ?_
      rotate_left
      ·rintro w' ⟨s0, s1, s2, s3, s4, s5, s6, s7, s8, s9, s10, s11, s12, s13, s14, s15, s16, s17, s18, s19, s20⟩
       try simp only [Int.toNat_natCast] at s0 s1 s2 s3 s4 s5 s6 s7 s8 s9 s10 s11 s12 s13 s14 s15 s16 s17 s18 s19 s20
       go_simp
       with_reducible rfl
      rotate_left
      ·simp only [Act.put, q1, q2, q3, i64_w, i32_w]
       rfl
      refine take_ (i := 9) (N := some 24) (v := ?_) (a' := ?_) (bA 20 18431) rfl rfl (tw_ HT_.out HW_.out) (fun _ _ _ h => h) (Or.inl ⟨by rfl, ?_⟩) hHeld ?_ ?_
      rotate_left
      ·rintro w' ⟨s0, s1, s2, s3, s4, s5, s6, s7, s8, s9, s10, s11, s12, s13, s14, s15, s16, s17, s18, s19, s20⟩
       try simp only [Int.toNat_natCast] at s0 s1 s2 s3 s4 s5 s6 s7 s8 s9 s10 s11 s12 s13 s14 s15 s16 s17 s18 s19 s20
       go_simp
       with_reducible rfl
      rotate_left
      ·simp only [Act.put, q1, q2, q3, i64_w, i32_w]
       rfl
      refine pure_ (i := 11) (N := some 26) (v := ?_) (a' := ?_) (bA 20 20479) rfl rfl (an_ HT_.out) (fun _ _ _ h => h) (Or.inl ⟨by rfl, ?_⟩) ?_ ?_
      rotate_left
      ·intro w'
       go_simp
       with_reducible rfl
      rotate_left
      ·simp only [Act.put, q1, q2, q3, i64_w, i32_w]
       rfl
      refine pure_ (i := 12) (N := some 27) (v := ?_) (a' := ?_) (bA 20 24575) rfl rfl (an_ HT_.out) (fun _ _ _ h => h) (Or.inl ⟨by rfl, ?_⟩) ?_ ?_
      rotate_left
      ·intro w'
       go_simp
       with_reducible rfl
      rotate_left
      ·simp only [Act.put, q1, q2, q3, i64_w, i32_w]
       rfl
      refine take_ (i := 13) (N := some 28) (v := ?_) (a' := ?_) (bA 20 32767) rfl rfl (tw_ HT_.out HW_.out) (fun _ _ _ h => h) (Or.inl ⟨by rfl, ?_⟩) hHeld ?_ ?_
      rotate_left
      ·rintro w' ⟨s0, s1, s2, s3, s4, s5, s6, s7, s8, s9, s10, s11, s12, s13, s14, s15, s16, s17, s18, s19, s20⟩
       try simp only [Int.toNat_natCast] at s0 s1 s2 s3 s4 s5 s6 s7 s8 s9 s10 s11 s12 s13 s14 s15 s16 s17 s18 s19 s20
       go_simp
       with_reducible rfl
      rotate_left
      ·simp only [Act.put, q1, q2, q3, i64_w, i32_w]
       rfl
      refine pure_ (i := 15) (N := some 30) (v := ?_) (a' := ?_) (bA 20 65535) rfl rfl (an_ HT_.out) (fun _ _ _ h => h) (Or.inl ⟨by rfl, ?_⟩) ?_ ?_
      rotate_left
      ·intro w'
       go_simp
       with_reducible rfl
      rotate_left
      ·simp only [Act.put, q1, q2, q3, i64_w, i32_w]
       rfl
      refine one_ (i := 16) (N := some 31) (bA 20 131071) rfl rfl (one_of HT_.out (by kernel_rfl)) (by decide) (fun K hK => ?_)
      refine value_ (w1 := ?_) (v := ?_) (by rfl) rfl ?_ ?_
      rotate_left 2
      ·go_simp
       constructor
       ·rfl
       ·rfl
      refine hK.out _ _ ⟨(blk_cell (blk_alloc BK123.out _) 0).trans rfl, (blk_cell (blk_alloc BK123.out _) 1).trans rfl, (blk_cell (blk_alloc BK121.out _) 0).trans rfl, (blk_cell (blk_alloc BK121.out _) 1).trans rfl, (blk_cell (blk_alloc BK121.out _) 2).trans rfl, (World.cell?_alloc_lt _ _ _ (World.block_lt_of_cell? _ _ ((cT HB.out hw124_0)))).trans ((cT HB.out hw124_0)), (World.cell?_alloc_lt _ _ _ (World.block_lt_of_cell? _ _ ((cT HB.out hw124_1)))).trans ((cT HB.out hw124_1)), (World.cell?_alloc_lt _ _ _ (World.block_lt_of_cell? _ _ ((cT HB.out hw124_2)))).trans ((cT HB.out hw124_2)), (World.cell?_alloc_lt _ _ _ (World.block_lt_of_cell? _ _ ((cT HB.out hw124_3)))).trans ((cT HB.out hw124_3)), (World.cell?_alloc_lt _ _ _ (World.block_lt_of_cell? _ _ ((cT HB.out hw124_4)))).trans ((cT HB.out hw124_4)), (World.cell?_alloc_lt _ _ _ (World.block_lt_of_cell? _ _ ((cT HB.out hw124_5)))).trans ((cT HB.out hw124_5)), (World.cell?_alloc_lt _ _ _ (World.block_lt_of_cell? _ _ ((cT HB.out hw124_6)))).trans ((cT HB.out hw124_6)), (World.cell?_alloc_lt _ _ _ (World.block_lt_of_cell? _ _ ((cT HB.out hw124_7)))).trans ((cT HB.out hw124_7)), (World.cell?_alloc_lt _ _ _ (World.block_lt_of_cell? _ _ ((cT HB.out hw125_0)))).trans ((cT HB.out hw125_0)), (World.cell?_alloc_lt _ _ _ (World.block_lt_of_cell? _ _ ((cT HB.out hw125_1)))).trans ((cT HB.out hw125_1)), (World.cell?_alloc_lt _ _ _ (World.block_lt_of_cell? _ _ ((cT HB.out hw125_2)))).trans ((cT HB.out hw125_2)), (World.cell?_alloc_lt _ _ _ (World.block_lt_of_cell? _ _ ((cT HB.out hw125_3)))).trans ((cT HB.out hw125_3)), (World.cell?_alloc_lt _ _ _ (World.block_lt_of_cell? _ _ ((cT HB.out hw125_4)))).trans ((cT HB.out hw125_4)), (World.cell?_alloc_lt _ _ _ (World.block_lt_of_cell? _ _ ((cT HB.out hw125_5)))).trans ((cT HB.out hw125_5)), (World.cell?_alloc_lt _ _ _ (World.block_lt_of_cell? _ _ ((cT HB.out hw125_6)))).trans ((cT HB.out hw125_6)), (World.cell?_alloc_lt _ _ _ (World.block_lt_of_cell? _ _ ((cT HB.out hw125_7)))).trans ((cT HB.out hw125_7))⟩ (fun hHeld => ?_)
      clear hK K
      refine norm_ (a' := ?_) ?_ ?_
      rotate_left
      ·show Act.put _ (some 31) _ = _
       simp only [Act.put, q1, q2, q3, i64_w, i32_w]
       rfl
      refine one_ (i := 17) (N := some 32) (bA 20 262143) rfl rfl (one_of HT_.out (by kernel_rfl)) (by decide) (fun K hK => ?_)
      refine Kd.R_append_step k120 (w0 := w) w.heap.size (by rfl) (.tmp 16) (.tmp 31) 76 120 (.agg #[(.int .i64 0), (.int .i64 0), (.int .i64 0)]) 24 rfl Try.underlying76 info120 rfl (by decide) (by omega) u124000 x124000_1 (⟨(rd_T84 l0_0 x4_1).f0, (rd_T84 l0_0 x4_1).f1, x4_1⟩ : S120) [.int .i64 ((rd_T84 l0_0 x4_1).f0), .int .i64 ((rd_T84 l0_0 x4_1).f1), .int .i64 x4_1] (fun _ => True) (fun _ => False) rfl rfl ?aP (fun _ hk => hk.elim) ?aF ?aO ?aB ?aS ?aL ?_
      (case aP => exact k120_mkM _ _ _ (⟨(rd_T84 l0_0 x4_1).f0, (rd_T84 l0_0 x4_1).f1, x4_1⟩ : S120))
      (case aB => exact (bI GE121.out GE122.out GE123.out))
      (case aF => exact (fun _ _ => trivial))
      (case aO => exact (rT HO_124000.out))
      (case aS => exact (below_size (bI GE121.out GE122.out GE123.out)))
      (case aL => have := LMc12.out; omega)
      intro v127 w17 ho hb hg hat
      rw [← Ny126.out] at ho
      have n0_ := Aside0.mk (blk_grown (g := gb121) (o := .cells #[.slice (some ad124) l0_0.length c0_0, .int .i64 a0_1, .int .i64 a0_2] 37 (0, 0)) (kT BK121.out) hg (Kd.R_ne HO_124000.out BK121.out (by decide)))
      have n1_ := Aside0.mk (blk_grown (g := gb122) (o := .cells #[.slice none 0 0, .int .i64 0] 78 (0, 0)) (kT BK122.out) hg (Kd.R_ne HO_124000.out BK122.out (by decide)))
      have n2_ := Aside0.mk (blk_grown (g := gb123) (o := .cells #[u124000, .int .i64 a0_1] 78 (0, 0)) (kT BK123.out) hg (Kd.R_ne HO_124000.out BK123.out (by decide)))
      have n3_ := Aside0.mk (hb)
      have n4_ := Aside0.mk (ho)
      clear BK121
      clear BK122
      clear BK123
      clear HB
      clear HO_124000
      have BK121 := n0_
      have BK122 := n1_
      have BK123 := n2_
      have HB := n3_
      have HO128 := n4_
      clear n0_ n1_ n2_ n3_ n4_
      clear ho hb hg hat
      obtain ⟨Ao18, co18, eo18⟩ := Kd.R_slice HO128.out
      (first | subst eo18 | (injection eo18 with f1_ f2_ f3_; have f4_ := f1_.symm; have f5_ := f3_.symm; clear f1_ f2_ f3_; subst f4_; subst f5_))
      refine hK.out _ _ ⟨(blk_cell BK123.out 0).trans rfl, (blk_cell BK123.out 1).trans rfl, (blk_cell BK121.out 0).trans rfl, (blk_cell BK121.out 1).trans rfl, (blk_cell BK121.out 2).trans rfl, (cT HB.out hw124_0), (cT HB.out hw124_1), (cT HB.out hw124_2), (cT HB.out hw124_3), (cT HB.out hw124_4), (cT HB.out hw124_5), (cT HB.out hw124_6), (cT HB.out hw124_7), (cT HB.out hw125_0), (cT HB.out hw125_1), (cT HB.out hw125_2), (cT HB.out hw125_3), (cT HB.out hw125_4), (cT HB.out hw125_5), (cT HB.out hw125_6), (cT HB.out hw125_7)⟩ (fun hHeld => ?_)
      clear hK K
      refine norm_ (a' := ?_) ?_ ?_
      rotate_left
      ·show Act.put _ (some 32) _ = _
       simp only [Act.put, q1, q2, q3, i64_w, i32_w]
       rfl
      refine pure_ (i := 18) (N := some 33) (v := ?_) (a' := ?_) (bA 20 524287) rfl rfl (an_ HT_.out) (fun _ _ _ h => h) (Or.inl ⟨by rfl, ?_⟩) ?_ ?_
      rotate_left
      ·intro w'
       go_simp
       with_reducible rfl
      rotate_left
      ·simp only [Act.put, q1, q2, q3, i64_w, i32_w]
       rfl
      refine last_ (i := 19) (N := none) (bA 20 1048575) rfl rfl (one_of HT_.out (by kernel_rfl)) (by decide) (fun K hK => ?_)
      have hs19 : w17.cell? ⟨gb123, 0, none⟩ = some (u124000) := (blk_cell BK123.out 0).trans rfl
      have hfs19 := blk_frozen BK123.out 0
      have hns19_0 := NB121_123.out
      have hns19_1 := NB122_123.out
      have hms19_0 := NB123_121.out
      have hms19_1 := NB123_122.out
      refine skip_ (w1 := ?_) (by rfl) rfl ?_ ?_
      rotate_left
      ·go_simp
       rfl
      refine hK.out _ _ ?_
      clear hK K
      refine done_ (done_of HT_.out (by kernel_rfl)) ?_
      try go_wp2
      go_roundg k1
      case measure => have := HK1.out; omega
      case rel => exact ⟨(wrap64 (x4_1 + 1)), (y126), (.slice Ao18 y126.length co18), (by first | rfl | (simp; done) | (simp [*]; done)), H', ⟨by have := HK1.out; omega⟩, ⟨by (with_reducible repeat (first | apply Kd.R_alloc | apply Kd.R_drewN | apply Kd.R_drew)); exact Kd.R_mono (Kd.R_far (p := ⟨gb123, 0, none⟩) (Kd.R_types HO128.out BK123.out (by decide)) (fun _ hk => hk.2) (.slice Ao18 y126.length co18)) (fun _ hk => trivial)⟩, ⟨by (with_reducible repeat (first | refine blk_drewN ?_ _ | refine blk_drew ?_ | refine blk_alloc ?_ _)); refine blk_far ?_ NB121_123.out _; (with_reducible repeat (first | refine blk_drewN ?_ _ | refine blk_drew ?_ | refine blk_alloc ?_ _)); exact BK121.out⟩, ⟨by (with_reducible repeat (first | refine blk_drewN ?_ _ | refine blk_drew ?_ | refine blk_alloc ?_ _)); refine blk_far ?_ NB122_123.out _; (with_reducible repeat (first | refine blk_drewN ?_ _ | refine blk_drew ?_ | refine blk_alloc ?_ _)); exact BK122.out⟩, ⟨by (with_reducible repeat (first | refine blk_drewN ?_ _ | refine blk_drew ?_ | refine blk_alloc ?_ _)); refine blk_put (cs := #[u124000, .int .i64 a0_1]) ?_ 0 _ rfl; (with_reducible repeat (first | refine blk_drewN ?_ _ | refine blk_drew ?_ | refine blk_alloc ?_ _)); exact BK123.out⟩, ⟨by repeat (first | (with_reducible first | exact HB.out | apply below_alloc | apply pw_below_drewN | apply below_drew1 | refine below_set ?_ GE121.out | refine below_set ?_ GE122.out | refine below_set ?_ GE123.out) | exact HB.out)⟩⟩
     ·rw [if_neg c12] at H
      exact absurd H (by simp)
    ·rw [if_neg c11] at H
     exact absurd H (by simp)
   ·rw [if_neg c10] at H
    have c10b0 : decide (x4_1 < (l0_0.length : Int)) = false := decide_eq_false c10
    clear c10
    simp only [Option.some.injEq, Prod.mk.injEq] at H
    obtain ⟨rfl, rfl⟩ := H
    have hnb20 := NB121_122.out
    have hnc20 := NB122_121.out
    have hnb21 := NB121_123.out
    have hnc21 := NB123_121.out
    have hcz22_0 : wr.cell? ⟨gb121, 0, none⟩ = some (.slice A0_0 l0_0.length c0_0) := (blk_cell BK121.out 0).trans rfl
    have hcz22_1 : wr.cell? ⟨gb121, 1, none⟩ = some (.int .i64 a0_1) := (blk_cell BK121.out 1).trans rfl
    have hcz22_2 : wr.cell? ⟨gb121, 2, none⟩ = some (.int .i64 a0_2) := (blk_cell BK121.out 2).trans rfl
    have hfz22_0 := blk_frozen BK121.out 0
    have hfz22_1 := blk_frozen BK121.out 1
    have hfz22_2 := blk_frozen BK121.out 2
    have hnb23 := NB123_122.out
    have hnc23 := NB122_123.out
    have hcz24_0 : wr.cell? ⟨gb123, 0, none⟩ = some (u124000) := (blk_cell BK123.out 0).trans rfl
    have hcz24_1 : wr.cell? ⟨gb123, 1, none⟩ = some (.int .i64 a0_1) := (blk_cell BK123.out 1).trans rfl
    have hfz24_0 := blk_frozen BK123.out 0
    have hfz24_1 := blk_frozen BK123.out 1
    obtain ⟨Ao25, co25, eo25⟩ := Kd.R_slice HO_124000.out
    subst eo25
    have hcz26_0 : wr.cell? ⟨gb122, 0, none⟩ = some (.slice none 0 0) := (blk_cell BK122.out 0).trans rfl
    have hcz26_1 : wr.cell? ⟨gb122, 1, none⟩ = some (.int .i64 0) := (blk_cell BK122.out 1).trans rfl
    have hfz26_0 := blk_frozen BK122.out 0
    have hfz26_1 := blk_frozen BK122.out 1
    go_wp2
    refine bodyPost_ret (results_cell_row rfl _ _ gb122 78 #[.slice Ao25 x124000_1.length co25, .int .i64 a0_1] (0, 0) _ rfl (by (with_reducible repeat (first | refine blk_drewN ?_ _ | refine blk_drew ?_ | refine blk_alloc ?_ _)); refine blk_put (cs := #[.slice Ao25 x124000_1.length co25, .int .i64 0]) ?_ 1 _ rfl; (with_reducible repeat (first | refine blk_drewN ?_ _ | refine blk_drew ?_ | refine blk_alloc ?_ _)); refine blk_put (cs := #[.slice none 0 0, .int .i64 0]) ?_ 0 _ rfl; (with_reducible repeat (first | refine blk_drewN ?_ _ | refine blk_drew ?_ | refine blk_alloc ?_ _)); exact BK122.out) Try.underlying78 rfl (by kernel_rfl)) rfl ?_
    exact ⟨_, by first | rfl | (simp [errW_none, errW_some] <;> rfl) | (simp [*, errW_none, errW_some] <;> rfl), by (with_reducible repeat (first | apply Kd.R_alloc | apply Kd.R_drewN | apply Kd.R_drew)); exact Kd.R_mono (Kd.R_far (p := ⟨gb122, 1, none⟩) (Kd.R_far (p := ⟨gb122, 0, none⟩) (Kd.R_types HO_124000.out BK122.out (by decide)) (fun _ hk => hk.2) (.slice Ao25 x124000_1.length co25)) (fun _ hk => hk.2) (.int .i64 a0_1)) (fun _ hk => trivial), by repeat (first | (with_reducible first | exact HB.out | apply below_alloc | apply pw_below_drewN | apply below_drew1 | refine below_set ?_ GE121.out | refine below_set ?_ GE122.out | refine below_set ?_ GE123.out) | exact HB.out)⟩
end Go.Proofs.Ytkmjboeabmmecaa.MAll
