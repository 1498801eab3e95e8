/- The functions that the law reaches in plain Lean, and that the calls come to what these say. No condition. (By wip/myprint.py, this session's program over the kit's print.) -/
import Derived.Test.YtoefbobjiepbeaaMQueueOwnx0
import Derived.Test.YtoefbobjiepbeaaMQueueOwnx1
import Derived.Test.YtoefbobjiepbeaaMQueueOwnx2
namespace Go.Proofs.Ytoefbobjiepbeaa.MQueueOwn
open Go.RowKit Go.Proofs.YtoefbobjiepbeaaW.PrintWords Go.Proofs.YtoefbobjiepbeaaW.PrintLast Go.Proofs.YtoefbobjiepbeaaW.PrintMore
attribute [local go_sem] max2_int min2_int max_two min_two max_three min_three max_four min_four   -- for this text's walks alone
set_option linter.unusedVariables false
set_option linter.unusedSimpArgs false

/-! ### mortmainlaw02_QueueOwn: function 6 -/
def mortmainlaw02_QueueOwn.j0 : Nat → Int → Int → Bool → List Int → Int → Option (Bool)
  | 0, _, _, _, _, _ => none
  | k + 1, x1, x2, x19, x173000, x173001 => if x19 = true then ((mortmainlaw02_shown.f).bind fun t174 => (some t174)) else ((queue_Push_int.f x173000 x173001 x1).bind fun bt175 => ((queue_Push_int.f x173000 x173001 x2).bind fun bt181 => (if bt175.2.2 = 0 then (if bt181.2.2 = 0 then (if (bt175.1.length : Int) = (wrap64 ((x173000.length : Int) + 1)) then (if (bt181.1.length : Int) = (wrap64 ((x173000.length : Int) + 1)) then (if 0 ≤ (x173000.length : Int) then (if (x173000.length : Int) < (bt175.1.length : Int) then (if (rd bt175.1 (x173000.length : Int)) = x1 then (if (x173000.length : Int) < (bt181.1.length : Int) then (if (rd bt181.1 (x173000.length : Int)) = x2 then (if (x173000.length : Int) ≤ (bt175.1.length : Int) then ((mortmainref02_Ints.f k (bt175.1.take ((x173000.length : Int) : Int).toNat) x173000).bind fun t194 => (if t194 = true then (if (x173000.length : Int) ≤ (bt181.1.length : Int) then ((mortmainref02_Ints.f k (bt181.1.take ((x173000.length : Int) : Int).toNat) x173000).bind fun t200 => (some t200)) else (none)) else (none))) else (none)) else (none)) else (none)) else (none)) else (none)) else (none)) else (none)) else (none)) else (none)) else (if bt181.2.2 = bt175.2.2 then ((queue_Len_int.f bt175.1 bt175.2.1).bind fun t201 => (some (t201 == (x173000.length : Int)))) else (none)))))
def mortmainlaw02_QueueOwn.f (k : Nat) (l0_0 : List Int) (a0_1 : Int) (a1 : Int) (a2 : Int) : Option (Bool) := if (l0_0.length : Int) > 60 then (mortmainlaw02_QueueOwn.j0 k a1 a2 true l0_0 a0_1) else ((mortmainlaw02_shown.f).bind fun t173 => (mortmainlaw02_QueueOwn.j0 k a1 a2 (!t173) l0_0 a0_1))
theorem mortmainlaw02_QueueOwn.mono_l : ∀ k, (∀ y0 y1 y2 y3 y4, LeO (mortmainlaw02_QueueOwn.j0 k y0 y1 y2 y3 y4) (mortmainlaw02_QueueOwn.j0 (k + 1) y0 y1 y2 y3 y4))
  | 0 => fun _ _ _ _ _ r h => by simp [mortmainlaw02_QueueOwn.j0] at h
  | k + 1 => by
    have ih0 := mortmainlaw02_QueueOwn.mono_l k
    · intro y0 y1 y2 y3 y4
      unfold mortmainlaw02_QueueOwn.j0
      repeat' first
      | (with_reducible exact ih0 _ _ _ _ _)
      | (with_reducible exact mortmainref02_Ints.mono _ _ _)
      | (with_reducible exact LeO.refl _)
      | (with_reducible exact LeO.none _)
      | (with_reducible refine LeO.ite ?_ ?_)
      | (with_reducible refine LeO.bind ?_ (fun _ => ?_))
      | exact ih0 _ _ _ _ _
      | exact mortmainref02_Ints.mono _ _ _
      | exact LeO.none _
      | refine LeO.ite ?_ ?_
      | refine LeO.bind ?_ (fun _ => ?_)
theorem mortmainlaw02_QueueOwn.mono : ∀ a0 a1 a2 a3 k, LeO (mortmainlaw02_QueueOwn.f k a0 a1 a2 a3) (mortmainlaw02_QueueOwn.f (k + 1) a0 a1 a2 a3) := by
  intro a0 a1 a2 a3 k
  have ih0 := mortmainlaw02_QueueOwn.mono_l k
  unfold mortmainlaw02_QueueOwn.f
  repeat' first
      | (with_reducible exact ih0 _ _ _ _ _)
      | (with_reducible exact mortmainref02_Ints.mono _ _ _)
      | (with_reducible exact LeO.refl _)
      | (with_reducible exact LeO.none _)
      | (with_reducible refine LeO.ite ?_ ?_)
      | (with_reducible refine LeO.bind ?_ (fun _ => ?_))
      | exact ih0 _ _ _ _ _
      | exact mortmainref02_Ints.mono _ _ _
      | exact LeO.none _
      | refine LeO.ite ?_ ?_
      | refine LeO.bind ?_ (fun _ => ?_)
def mortmainlaw02_QueueOwn.T8 : Bool × List (List Nat × List Nat) := (true, [([], []), ([0], [0]), ([1], [1]), ([2], [2]), ([3, 2], [2, 3]), ([4, 2], [2, 4]), ([2], [2]), ([6, 2], [2, 6]), ([5, 7, 2], [2, 5, 7]), ([2, 8], [2, 8]), ([9, 2], [9]), ([10], [10]), ([11, 10], [10, 11]), ([12, 10], [10, 12]), ([10], [10]), ([14, 10], [10, 14]), ([13, 15, 10], [10, 13, 15]), ([10, 16], [10, 16]), ([17, 10], [17]), ([18], [18]), ([19, 18], [18, 19]), ([18], [18]), ([20, 21, 18], [18, 20, 21]), ([22, 18], [18, 22]), ([18], [18]), ([23, 24, 18], [18, 23, 24]), ([18, 25], [18, 25]), ([26, 18], [26]), ([27], [27]), ([28, 27], [27, 28]), ([27], [27]), ([29, 30, 27], [27, 29, 30]), ([31, 27], [27, 31]), ([27], [27]), ([32, 33, 27], [27, 32, 33]), ([27, 34], [27, 34]), ([35, 27], [35]), ([36], [36]), ([37, 36], [36, 37]), ([36], [36]), ([38, 39, 36], [36, 38, 39]), ([36], [36]), ([41, 36], [36, 41]), ([40, 42, 36, 36], [36, 40, 42]), ([36, 43], [36, 43]), ([44, 43], [44]), ([45], [45]), ([46, 45], [45, 46]), ([45], [45]), ([47, 48, 45], [45, 47, 48]), ([45], [45]), ([50, 45], [45, 50]), ([49, 51, 45, 45], [45, 49, 51]), ([45, 52], [45, 52]), ([53, 52, 0, 1, 2, 3, 4, 5, 6, 7, 8, 9, 10, 11, 12, 13, 14, 15, 16, 17, 18, 19, 20, 21, 22, 23, 24, 25, 26, 27, 28, 29, 30, 31, 32, 33, 34, 35, 36, 37, 38, 39, 40, 41, 42, 43, 44, 45, 46, 47, 48, 49, 50, 51, 52, 53], [53])])
def mortmainlaw02_QueueOwn.B8 : List Nat := [0, 1, 3, 7, 15, 31, 7, 71, 255, 511, 1023, 2047, 4095, 8191, 2047, 18431, 65535, 131071, 262143, 524287, 1048575, 524287, 4194303, 8388607, 524287, 33554431, 67108863, 134217727, 268435455, 536870911, 268435455, 2147483647, 4294967295, 268435455, 17179869183, 34359738367, 68719476735, 137438953471, 274877906943, 137438953471, 1099511627775, 137438953471, 2336462209023, 8796093022207, 17592186044415, 35184372088831, 70368744177663, 140737488355327, 70368744177663, 562949953421311, 70368744177663, 1196268651020287, 4503599627370495, 9007199254740991, 18014398509481983]
theorem mortmainlaw02_QueueOwn.tab8 : rtab .any (opsOf Try.f6 8) = mortmainlaw02_QueueOwn.T8 := by kernel_rfl
theorem mortmainlaw02_QueueOwn.bits8 : waitsOk mortmainlaw02_QueueOwn.T8.2 mortmainlaw02_QueueOwn.B8 = true := by kernel_rfl
set_option maxHeartbeats 8000000 in
set_option maxRecDepth 100000 in
theorem mortmainlaw02_QueueOwn.calls (k : Nat) (A0_0 : Option Addr) (c0_0 : Nat) (l0_0 : List Int) (a0_1 : Int) (a1 : Int) (a2 : Int) (r : Bool) (w : World) (hr0_0 : Kd.C (Kd.int .i64) w A0_0 l0_0.length l0_0) (hc0_0 : l0_0.length ≤ c0_0) (h : mortmainlaw02_QueueOwn.f k l0_0 a0_1 a1 a2 = some r) :
    Calls Try.prog 6 #[.agg #[.slice A0_0 l0_0.length c0_0, .int .i64 a0_1], .int .i64 a1, .int .i64 a2] w fun e w' => e = .returned (.bool r) ∧ Below w.heap.size w w' := by
  have hu24 := Try.underlying24
  have HR0_0 := Aside0.mk hr0_0
  have HC0_0 := Aside0.mk hc0_0
  clear hr0_0 hc0_0
  have HB := Aside0.mk (Below.refl w.heap.size w)
  have H : (if (l0_0.length : Int) > 60 then (mortmainlaw02_QueueOwn.j0 k a1 a2 true l0_0 a0_1) else ((mortmainlaw02_shown.f).bind fun t173 => (mortmainlaw02_QueueOwn.j0 k a1 a2 (!t173) l0_0 a0_1))) = some r := h
  clear h
  have HC4 := Aside0.mk H
  clear H
  go_enter Try.func6, Try.ntmps6
  go_upto_region 1 with (first | ((with_reducible refine gate_dst (N := 3) rfl ?_); (try (refine gate_guard (by rfl) ?_; dsimp only)); refine box_event ?hg (N := 3) ?hd (cs := #[.slice A0_0 l0_0.length c0_0, .int .i64 a0_1]) (t := 24) ?hr ?_; (case hd => rfl); (case hg => rfl); (case hr => first | (go_simp; done) | (go_simp; rfl)); intro gb172 hg w5 hbox hb; have n0_ := Aside0.mk (below_step (by repeat (first | (with_reducible first | exact HB.out | apply below_alloc | apply pw_below_drewN | apply below_drew1) | exact HB.out)) hb); have n1_ := Aside0.mk (hbox); have n2_ := Aside0.mk ((by rw [hg]; exact (below_size (by repeat (first | (with_reducible first | exact HB.out | apply below_alloc | apply pw_below_drewN | apply below_drew1) | exact HB.out))) : w.heap.size ≤ gb172)); have n3_ := Aside0.mk ((by rw [hg]; exact (below_size (by repeat (first | (with_reducible first | exact HB.out | apply below_alloc | apply pw_below_drewN | apply below_drew1) | exact HB.out))) : w.heap.size ≤ gb172)); clear HB; have HB := n0_; have BK172 := n1_; have GW172 := n2_; have GE172 := n3_; clear n0_ n1_ n2_ n3_; clear hb hbox hg))
  (try simp only [Act.put, List.setIfInBounds_toArray, List.set_cons_zero, List.set_cons_succ])
  go_cut [19] (fun v19 wc => ∃ (kq : Nat) (x19_3 : Bool), v19 = .bool x19_3 ∧ Aside0 (mortmainlaw02_QueueOwn.j0 kq a1 a2 x19_3 l0_0 a0_1 = some r) ∧ Aside0 (kq ≤ k) ∧ Aside0 (wc.heap[gb172]? = some (.cells #[(.slice A0_0 l0_0.length c0_0), .int .i64 a0_1] 24 (0, 0))) ∧ Aside0 (Below w.heap.size w wc))
  case first =>
    have H := HC4.out
    clear HC4
    by_cases c6 : (l0_0.length : Int) > 60
    · rw [if_pos c6] at H
      have c6b0 : decide (60 < (l0_0.length : Int)) = true := decide_eq_true c6
      have c6b1 : decide (60 < l0_0.length) = true := decide_eq_true (by omega)
      clear c6
      (first | rw [c6b0] | (simp only [i64_w, i32_w]; rw [c6b0]) | skip)
      have H' := Aside0.mk H
      clear H
      have hcz7_0 : w5.cell? ⟨gb172, 0, none⟩ = some (.slice A0_0 l0_0.length c0_0) := (blk_cell BK172.out 0).trans rfl
      have hcz7_1 : w5.cell? ⟨gb172, 1, none⟩ = some (.int .i64 a0_1) := (blk_cell BK172.out 1).trans rfl
      have hfz7_0 := blk_frozen BK172.out 0
      have hfz7_1 := blk_frozen BK172.out 1
      go_wp2
      go_meet
      case rel => exact ⟨_, (true), (by first | rfl | (simp; done) | (simp [*]; done)), H', ⟨by first | omega | exact Nat.le_refl _⟩, ⟨by (with_reducible repeat (first | refine blk_drewN ?_ _ | refine blk_drew ?_ | refine blk_alloc ?_ _)); exact BK172.out⟩, ⟨by repeat (first | (with_reducible first | exact HB.out | apply below_alloc | apply pw_below_drewN | apply below_drew1 | refine below_set ?_ GE172.out) | exact HB.out)⟩⟩
    · rw [if_neg c6] at H
      have c6b0 : decide (60 < (l0_0.length : Int)) = false := decide_eq_false c6
      have c6b1 : decide (60 < l0_0.length) = false := decide_eq_false (by omega)
      clear c6
      (first | rw [c6b0] | (simp only [i64_w, i32_w]; rw [c6b0]) | skip)
      replace H := Option.bind_eq_some_iff.mp H
      obtain ⟨t173, A80, H⟩ := H
      replace H : (mortmainlaw02_QueueOwn.j0 k a1 a2 (!t173) l0_0 a0_1) = some r := H
      have A8 := Aside0.mk A80
      clear A80
      have H' := Aside0.mk H
      clear H
      have hcz9_0 : w5.cell? ⟨gb172, 0, none⟩ = some (.slice A0_0 l0_0.length c0_0) := (blk_cell BK172.out 0).trans rfl
      have hcz9_1 : w5.cell? ⟨gb172, 1, none⟩ = some (.int .i64 a0_1) := (blk_cell BK172.out 1).trans rfl
      have hfz9_0 := blk_frozen BK172.out 0
      have hfz9_1 := blk_frozen BK172.out 1
      go_wp2_with (first | (go_at_call 9; (with_reducible refine (mortmainlaw02_shown.calls  t173 _ A8.out).mono ?_); rintro e w10 ⟨rfl, hb⟩; have n0_ := Aside0.mk (blk_below (g := gb172) (o := .cells #[.slice A0_0 l0_0.length c0_0, .int .i64 a0_1] 24 (0, 0)) (by (with_reducible repeat (first | refine blk_drewN ?_ _ | refine blk_drew ?_ | refine blk_alloc ?_ _)); exact BK172.out) hb); have n1_ := Aside0.mk (below_step (by repeat (first | (with_reducible first | exact HB.out | apply below_alloc | apply pw_below_drewN | apply below_drew1 | refine below_set ?_ GE172.out) | exact HB.out)) hb); clear BK172; clear HB; have BK172 := n0_; have HB := n1_; clear n0_ n1_; (try clear hb); (try clear hb2); (try clear hk); (try clear hi)))
      go_meet
      case rel => exact ⟨_, (!t173), (by first | rfl | (simp; done) | (simp [*]; done)), H', ⟨by first | omega | exact Nat.le_refl _⟩, ⟨by (with_reducible repeat (first | refine blk_drewN ?_ _ | refine blk_drew ?_ | refine blk_alloc ?_ _)); exact BK172.out⟩, ⟨by repeat (first | (with_reducible first | exact HB.out | apply below_alloc | apply pw_below_drewN | apply below_drew1 | refine below_set ?_ GE172.out) | exact HB.out)⟩⟩
  case rest =>
    clear HC4
    try clear p2
    try clear c6
    try clear c6b0
    try clear c6b1
    try clear hcz7_0
    try clear hcz7_1
    try clear hcz9_0
    try clear hcz9_1
    try clear hfz7_0
    try clear hfz7_1
    try clear hfz9_0
    try clear hfz9_1
    obtain ⟨kq, x19_3, rfl, HA, HJ3, BK172, HB⟩ := hcut
    cases kq with
    | zero => exact absurd HA.out (by simp [mortmainlaw02_QueueOwn.j0])
    | succ kj3 =>
      have H := HA.out
      clear HA
      simp only [mortmainlaw02_QueueOwn.j0] at H
      by_cases c11 : x19_3 = true
      · subst c11
        have H1 : ((mortmainlaw02_shown.f).bind fun t174 => (some t174)) = some r := by rw [if_pos rfl] at H; exact H
        clear H
        have H := H1
        clear H1
        replace H := Option.bind_eq_some_iff.mp H
        obtain ⟨t174, A120, H⟩ := H
        replace H : (some t174) = some r := H
        have A12 := Aside0.mk A120
        clear A120
        obtain rfl := Option.some.inj H
        go_wp2_with (first | ((with_reducible refine gate_callee (f := 9) rfl ?_); refine goesL_ (some 20) rfl rfl Try.func9 (by kernel_rfl) rfl #[] rfl (by (try simp only [List.map_toArray, List.map_cons, List.map_nil]); first | done | rfl | (simp only [List.length_drop, List.length_take]; rfl)) ?_; (with_reducible refine (mortmainlaw02_shown.calls  t174 _ A12.out).mono ?_); rintro e w13 ⟨rfl, hb⟩; refine ⟨_, rfl, ?_⟩; have n0_ := Aside0.mk (blk_below (g := gb172) (o := .cells #[.slice A0_0 l0_0.length c0_0, .int .i64 a0_1] 24 (0, 0)) (by (with_reducible repeat (first | refine blk_drewN ?_ _ | refine blk_drew ?_ | refine blk_alloc ?_ _)); exact BK172.out) hb); have n1_ := Aside0.mk (below_step (by repeat (first | (with_reducible first | exact HB.out | apply below_alloc | apply pw_below_drewN | apply below_drew1 | refine below_set ?_ GE172.out) | exact HB.out)) hb); clear BK172; clear HB; have BK172 := n0_; have HB := n1_; clear n0_ n1_; (try clear hb); (try clear hb2); (try clear hk); (try clear hi)))
        go_ret
        exact ⟨by first | rfl | (simp [errW_none, errW_some] <;> rfl) | (simp [*, errW_none, errW_some] <;> rfl), by repeat (first | (with_reducible first | exact HB.out | apply below_alloc | apply pw_below_drewN | apply below_drew1 | refine below_set ?_ GE172.out) | exact HB.out)⟩
      · replace c11 := Bool.eq_false_iff.mpr c11
        subst c11
        have H1 : ((queue_Push_int.f l0_0 a0_1 a1).bind fun bt175 => ((queue_Push_int.f l0_0 a0_1 a2).bind fun bt181 => (if bt175.2.2 = 0 then (if bt181.2.2 = 0 then (if (bt175.1.length : Int) = (wrap64 ((l0_0.length : Int) + 1)) then (if (bt181.1.length : Int) = (wrap64 ((l0_0.length : Int) + 1)) then (if 0 ≤ (l0_0.length : Int) then (if (l0_0.length : Int) < (bt175.1.length : Int) then (if (rd bt175.1 (l0_0.length : Int)) = a1 then (if (l0_0.length : Int) < (bt181.1.length : Int) then (if (rd bt181.1 (l0_0.length : Int)) = a2 then (if (l0_0.length : Int) ≤ (bt175.1.length : Int) then ((mortmainref02_Ints.f kj3 (bt175.1.take ((l0_0.length : Int) : Int).toNat) l0_0).bind fun t194 => (if t194 = true then (if (l0_0.length : Int) ≤ (bt181.1.length : Int) then ((mortmainref02_Ints.f kj3 (bt181.1.take ((l0_0.length : Int) : Int).toNat) l0_0).bind fun t200 => (some t200)) else (none)) else (none))) else (none)) else (none)) else (none)) else (none)) else (none)) else (none)) else (none)) else (none)) else (none)) else (if bt181.2.2 = bt175.2.2 then ((queue_Len_int.f bt175.1 bt175.2.1).bind fun t201 => (some (t201 == (l0_0.length : Int)))) else (none))))) = some r := by rw [if_neg (show ¬ (false = true) by decide)] at H; exact H
        clear H
        have H := H1
        clear H1
        replace H := Option.bind_eq_some_iff.mp H
        obtain ⟨⟨t175, t178, t179⟩, A140, H⟩ := H
        replace H : ((queue_Push_int.f l0_0 a0_1 a2).bind fun bt181 => (if t179 = 0 then (if bt181.2.2 = 0 then (if (t175.length : Int) = (wrap64 ((l0_0.length : Int) + 1)) then (if (bt181.1.length : Int) = (wrap64 ((l0_0.length : Int) + 1)) then (if 0 ≤ (l0_0.length : Int) then (if (l0_0.length : Int) < (t175.length : Int) then (if (rd t175 (l0_0.length : Int)) = a1 then (if (l0_0.length : Int) < (bt181.1.length : Int) then (if (rd bt181.1 (l0_0.length : Int)) = a2 then (if (l0_0.length : Int) ≤ (t175.length : Int) then ((mortmainref02_Ints.f kj3 (t175.take ((l0_0.length : Int) : Int).toNat) l0_0).bind fun t194 => (if t194 = true then (if (l0_0.length : Int) ≤ (bt181.1.length : Int) then ((mortmainref02_Ints.f kj3 (bt181.1.take ((l0_0.length : Int) : Int).toNat) l0_0).bind fun t200 => (some t200)) else (none)) else (none))) else (none)) else (none)) else (none)) else (none)) else (none)) else (none)) else (none)) else (none)) else (none)) else (if bt181.2.2 = t179 then ((queue_Len_int.f t175 t178).bind fun t201 => (some (t201 == (l0_0.length : Int)))) else (none)))) = some r := H
        have A14 := Aside0.mk A140
        clear A140
        replace H := Option.bind_eq_some_iff.mp H
        obtain ⟨⟨t181, t184, t185⟩, A150, H⟩ := H
        replace H : (if t179 = 0 then (if t185 = 0 then (if (t175.length : Int) = (wrap64 ((l0_0.length : Int) + 1)) then (if (t181.length : Int) = (wrap64 ((l0_0.length : Int) + 1)) then (if 0 ≤ (l0_0.length : Int) then (if (l0_0.length : Int) < (t175.length : Int) then (if (rd t175 (l0_0.length : Int)) = a1 then (if (l0_0.length : Int) < (t181.length : Int) then (if (rd t181 (l0_0.length : Int)) = a2 then (if (l0_0.length : Int) ≤ (t175.length : Int) then ((mortmainref02_Ints.f kj3 (t175.take ((l0_0.length : Int) : Int).toNat) l0_0).bind fun t194 => (if t194 = true then (if (l0_0.length : Int) ≤ (t181.length : Int) then ((mortmainref02_Ints.f kj3 (t181.take ((l0_0.length : Int) : Int).toNat) l0_0).bind fun t200 => (some t200)) else (none)) else (none))) else (none)) else (none)) else (none)) else (none)) else (none)) else (none)) else (none)) else (none)) else (none)) else (if t185 = t179 then ((queue_Len_int.f t175 t178).bind fun t201 => (some (t201 == (l0_0.length : Int)))) else (none))) = some r := H
        have A15 := Aside0.mk A150
        clear A150
        by_cases c16 : t179 = 0
        · rw [if_pos c16] at H
          have c16b0 : (t179 == 0) = true := beq_iff_eq.mpr c16
          have c16b1 : (t179 != 0) = false := bne_eq_false_iff_eq.mpr c16
          clear c16
          by_cases c17 : t185 = 0
          · rw [if_pos c17] at H
            have c17b0 : (t185 == 0) = true := beq_iff_eq.mpr c17
            have c17b1 : (t185 != 0) = false := bne_eq_false_iff_eq.mpr c17
            clear c17
            by_cases c18 : (t175.length : Int) = (wrap64 ((l0_0.length : Int) + 1))
            · rw [if_pos c18] at H
              have c18b0 : ((t175.length : Int) == (wrap64 ((l0_0.length : Int) + 1))) = true := beq_iff_eq.mpr c18
              have c18b1 : ((t175.length : Int) != (wrap64 ((l0_0.length : Int) + 1))) = false := bne_eq_false_iff_eq.mpr c18
              clear c18
              by_cases c19 : (t181.length : Int) = (wrap64 ((l0_0.length : Int) + 1))
              · rw [if_pos c19] at H
                have c19b0 : ((t181.length : Int) == (wrap64 ((l0_0.length : Int) + 1))) = true := beq_iff_eq.mpr c19
                have c19b1 : ((t181.length : Int) != (wrap64 ((l0_0.length : Int) + 1))) = false := bne_eq_false_iff_eq.mpr c19
                clear c19
                by_cases c20 : 0 ≤ (l0_0.length : Int)
                · rw [if_pos c20] at H
                  have c20b0 : decide (0 ≤ (l0_0.length : Int)) = true := decide_eq_true c20
                  have c20b1 : decide (0 ≤ l0_0.length) = true := decide_eq_true (by omega)
                  clear c20
                  by_cases c21 : (l0_0.length : Int) < (t175.length : Int)
                  · rw [if_pos c21] at H
                    have c21b0 : decide ((l0_0.length : Int) < (t175.length : Int)) = true := decide_eq_true c21
                    have c21b1 : decide (l0_0.length < t175.length) = true := decide_eq_true (Int.ofNat_lt.mp c21)
                    clear c21
                    by_cases c22 : (rd t175 (l0_0.length : Int)) = a1
                    · rw [if_pos c22] at H
                      have c22b0 : ((rd t175 (l0_0.length : Int)) == a1) = true := beq_iff_eq.mpr c22
                      have c22b1 : ((rd t175 (l0_0.length : Int)) != a1) = false := bne_eq_false_iff_eq.mpr c22
                      clear c22
                      by_cases c23 : (l0_0.length : Int) < (t181.length : Int)
                      · rw [if_pos c23] at H
                        have c23b0 : decide ((l0_0.length : Int) < (t181.length : Int)) = true := decide_eq_true c23
                        have c23b1 : decide (l0_0.length < t181.length) = true := decide_eq_true (Int.ofNat_lt.mp c23)
                        clear c23
                        by_cases c24 : (rd t181 (l0_0.length : Int)) = a2
                        · rw [if_pos c24] at H
                          have c24b0 : ((rd t181 (l0_0.length : Int)) == a2) = true := beq_iff_eq.mpr c24
                          have c24b1 : ((rd t181 (l0_0.length : Int)) != a2) = false := bne_eq_false_iff_eq.mpr c24
                          clear c24
                          have c25b0 := eq_true (of_decide_eq_true (by first | (with_reducible assumption) | assumption) : 0 ≤ (l0_0.length : Int))
                          by_cases c26 : (l0_0.length : Int) ≤ (t175.length : Int)
                          · rw [if_pos c26] at H
                            have c26b0 := eq_true c26
                            have c26b1 : decide ((l0_0.length : Int) ≤ (t175.length : Int)) = true := decide_eq_true c26
                            clear c26
                            obtain ⟨y189, hy189⟩ : ∃ y_ : List Int, y_ = (t175.take ((l0_0.length : Int) : Int).toNat) := ⟨_, rfl⟩
                            replace H : ((mortmainref02_Ints.f kj3 y189 l0_0).bind fun t194 => (if t194 = true then (if (l0_0.length : Int) ≤ (t181.length : Int) then ((mortmainref02_Ints.f kj3 (t181.take ((l0_0.length : Int) : Int).toNat) l0_0).bind fun t200 => (some t200)) else (none)) else (none))) = some r := by first | (rw [hy189]; with_reducible exact H) | (have H2_ := (Option.bind_some _ _).symm.trans H; rw [hy189]; with_reducible exact H2_) | (have H2_ := (Option.bind_some _ _).symm.trans H; with_reducible exact H2_) | with_reducible exact H | (rw [hy189]; exact H) | exact H
                            have Ny189 := Aside0.mk hy189
                            clear hy189
                            replace H := Option.bind_eq_some_iff.mp H
                            obtain ⟨t194, A270, H⟩ := H
                            replace H : (if t194 = true then (if (l0_0.length : Int) ≤ (t181.length : Int) then ((mortmainref02_Ints.f kj3 (t181.take ((l0_0.length : Int) : Int).toNat) l0_0).bind fun t200 => (some t200)) else (none)) else (none)) = some r := H
                            have A27 := Aside0.mk A270
                            clear A270
                            by_cases c28 : t194 = true
                            · subst c28
                              have H1 : (if (l0_0.length : Int) ≤ (t181.length : Int) then ((mortmainref02_Ints.f kj3 (t181.take ((l0_0.length : Int) : Int).toNat) l0_0).bind fun t200 => (some t200)) else (none)) = some r := by rw [if_pos rfl] at H; exact H
                              clear H
                              have H := H1
                              clear H1
                              have c29b0 := eq_true (of_decide_eq_true (by first | (with_reducible assumption) | assumption) : 0 ≤ (l0_0.length : Int))
                              by_cases c30 : (l0_0.length : Int) ≤ (t181.length : Int)
                              · rw [if_pos c30] at H
                                have c30b0 := eq_true c30
                                have c30b1 : decide ((l0_0.length : Int) ≤ (t181.length : Int)) = true := decide_eq_true c30
                                clear c30
                                obtain ⟨y195, hy195⟩ : ∃ y_ : List Int, y_ = (t181.take ((l0_0.length : Int) : Int).toNat) := ⟨_, rfl⟩
                                replace H : ((mortmainref02_Ints.f kj3 y195 l0_0).bind fun t200 => (some t200)) = some r := by first | (rw [hy195]; with_reducible exact H) | (have H2_ := (Option.bind_some _ _).symm.trans H; rw [hy195]; with_reducible exact H2_) | (have H2_ := (Option.bind_some _ _).symm.trans H; with_reducible exact H2_) | with_reducible exact H | (rw [hy195]; exact H) | exact H
                                have Ny195 := Aside0.mk hy195
                                clear hy195
                                replace H := Option.bind_eq_some_iff.mp H
                                obtain ⟨t200, A310, H⟩ := H
                                replace H : (some t200) = some r := H
                                have A31 := Aside0.mk A310
                                clear A310
                                obtain rfl := Option.some.inj H
                                have hcz32_0 : wc.cell? ⟨gb172, 0, none⟩ = some (.slice A0_0 l0_0.length c0_0) := (blk_cell BK172.out 0).trans rfl
                                have hcz32_1 : wc.cell? ⟨gb172, 1, none⟩ = some (.int .i64 a0_1) := (blk_cell BK172.out 1).trans rfl
                                have hfz32_0 := blk_frozen BK172.out 0
                                have hfz32_1 := blk_frozen BK172.out 1
                                try go_wp2_with (first | ((with_reducible refine gate_callee (f := 10) rfl ?_); refine goesL_ (some 24) rfl rfl Try.func10 (by kernel_rfl) rfl #[.agg #[.slice A0_0 l0_0.length c0_0, .int .i64 a0_1], .int .i64 a1] rfl (by (try simp only [List.map_toArray, List.map_cons, List.map_nil]); first | done | rfl | (simp only [List.length_drop, List.length_take]; rfl)) ?_; (with_reducible refine (queue_Push_int.calls (fun k_ => k_ < w.heap.size) _ _ l0_0 a0_1 a1 t175 t178 t179 _ ?side1 A14.out).mono ?_); (case side1 => exact Kd.V_mk HC0_0.out (Kd.F_below (Kd.C_F (Kd.heap_int .i64) HR0_0.out) (by repeat (first | (with_reducible first | exact HB.out | apply below_alloc | apply pw_below_drewN | apply below_drew1 | refine below_set ?_ GE172.out) | exact HB.out)))); rintro e w33 ⟨v176, rfl, ho0, hb⟩; refine ⟨_, rfl, ?_⟩; have n0_ := Aside0.mk (Kd.V_lower (Kd.V_mono (ok' := fun k_ => k_ ≠ gb172) ho0 (fun k_ hk_ => Or.elim hk_ (fun hs_ => fun e_ => Nat.not_le.2 hs_ (by rw [e_]; exact GW172.out)) (fun hn_ => (Kd.freshB (g := gb172) (o := .cells #[.slice A0_0 l0_0.length c0_0, .int .i64 a0_1] 24 (0, 0)) (by (with_reducible repeat (first | refine blk_drewN ?_ _ | refine blk_drew ?_ | refine blk_alloc ?_ _)); exact BK172.out) k_ hn_)))) (below_size (by repeat (first | (with_reducible first | exact HB.out | apply below_alloc | apply pw_below_drewN | apply below_drew1 | refine below_set ?_ GE172.out) | exact HB.out)))); have n1_ := Aside0.mk (blk_below (g := gb172) (o := .cells #[.slice A0_0 l0_0.length c0_0, .int .i64 a0_1] 24 (0, 0)) (by (with_reducible repeat (first | refine blk_drewN ?_ _ | refine blk_drew ?_ | refine blk_alloc ?_ _)); exact BK172.out) hb); have n2_ := Aside0.mk (below_step (by repeat (first | (with_reducible first | exact HB.out | apply below_alloc | apply pw_below_drewN | apply below_drew1 | refine below_set ?_ GE172.out) | exact HB.out)) hb); clear BK172; clear HB; have HO177 := n0_; have BK172 := n1_; have HB := n2_; clear n0_ n1_ n2_; (try clear hb); (try clear hb2); (try clear hk); (try clear hi); (try clear ho0)) | ((with_reducible refine gate_dst (N := 7) rfl ?_); (try (refine gate_guard (by rfl) ?_; dsimp only)); refine box_event ?hg (N := 7) ?hd (cs := #[.slice none 0 0, .int .i64 0]) (t := 24) ?hr ?_; (case hd => rfl); (case hg => rfl); (case hr => first | (go_simp; done) | (go_simp; rfl)); intro gb180 hg w34 hbox hb; have n0_ := Aside0.mk (Kd.V_below (Kd.V_elderB (by (with_reducible repeat (first | apply Kd.V_alloc | apply Kd.V_drewN | apply Kd.V_drew)); exact HO177.out) gb180 (Nat.le_of_eq hg.symm)) hb); have n1_ := Aside0.mk (blk_below (g := gb172) (o := .cells #[.slice A0_0 l0_0.length c0_0, .int .i64 a0_1] 24 (0, 0)) (by (with_reducible repeat (first | refine blk_drewN ?_ _ | refine blk_drew ?_ | refine blk_alloc ?_ _)); exact BK172.out) hb); have n2_ := Aside0.mk (below_step (by repeat (first | (with_reducible first | exact HB.out | apply below_alloc | apply pw_below_drewN | apply below_drew1 | refine below_set ?_ GE172.out) | exact HB.out)) hb); have n3_ := Aside0.mk (hbox); have n4_ := Aside0.mk ((by rw [hg]; exact (below_size (by repeat (first | (with_reducible first | exact HB.out | apply below_alloc | apply pw_below_drewN | apply below_drew1 | refine below_set ?_ GE172.out) | exact HB.out))) : w.heap.size ≤ gb180)); have n5_ := Aside0.mk ((by rw [hg]; exact (below_size (by repeat (first | (with_reducible first | exact HB.out | apply below_alloc | apply pw_below_drewN | apply below_drew1 | refine below_set ?_ GE172.out) | exact HB.out))) : w.heap.size ≤ gb180)); have n6_ := Aside0.mk ((by rw [hg]; exact Nat.ne_of_lt (blk_lt (g := gb172) (o := .cells #[.slice A0_0 l0_0.length c0_0, .int .i64 a0_1] 24 (0, 0)) (by (with_reducible repeat (first | refine blk_drewN ?_ _ | refine blk_drew ?_ | refine blk_alloc ?_ _)); exact BK172.out)) : gb172 ≠ gb180)); have n7_ := Aside0.mk ((by rw [hg]; exact Nat.ne_of_gt (blk_lt (g := gb172) (o := .cells #[.slice A0_0 l0_0.length c0_0, .int .i64 a0_1] 24 (0, 0)) (by (with_reducible repeat (first | refine blk_drewN ?_ _ | refine blk_drew ?_ | refine blk_alloc ?_ _)); exact BK172.out)) : gb180 ≠ gb172)); clear HO177; clear BK172; clear HB; have HO177 := n0_; have BK172 := n1_; have HB := n2_; have BK180 := n3_; have GW180 := n4_; have GE180 := n5_; have NB172_180 := n6_; have NB180_172 := n7_; clear n0_ n1_ n2_ n3_ n4_ n5_ n6_ n7_; clear hb hbox hg; obtain ⟨Ao35, co35, eo35⟩ := Kd.V_slice HO177.out; subst eo35; have hnb36 := NB180_172.out; have hnc36 := NB172_180.out; have hcz37_0 : w34.cell? ⟨gb180, 0, none⟩ = some (.slice none 0 0) := (blk_cell BK180.out 0).trans rfl; have hcz37_1 : w34.cell? ⟨gb180, 1, none⟩ = some (.int .i64 0) := (blk_cell BK180.out 1).trans rfl; have hfz37_0 := blk_frozen BK180.out 0; have hfz37_1 := blk_frozen BK180.out 1) | ((with_reducible refine gate_store (t := 24) (p := 7) rfl ?_); refine store_event (t := 24) (p := 7) (v := ?vo_w38) (w1 := ((w34.setCell ⟨gb180, 0, none⟩ (.slice Ao35 t175.length co35)).setCell ⟨gb180, 1, none⟩ (.int .i64 t178))) ?hg ?ho ?hn ?hr ?_; (case ho => rfl); (case hg => rfl); (case hn => rfl); (case hr => first | (go_simp; done) | (go_simp; rfl)); intro w38 hw; have n0_ : Aside0 (Kd.V (Kd.int .i64) 3 w38 w.heap.size (fun k_ => k_ ≠ gb172 ∧ k_ ≠ gb180) (.slice Ao35 t175.length co35) t175) := ⟨(by rw [hw]; exact (by (with_reducible repeat (first | apply Kd.V_alloc | apply Kd.V_drewN | apply Kd.V_drew)); exact Kd.V_mono (Kd.V_far (p := ⟨gb180, 1, none⟩) (Kd.V_far (p := ⟨gb180, 0, none⟩) (Kd.V_mono HO177.out (fun k_ hk => (⟨hk, hk.2⟩ : _ ∧ k_ ≠ gb180))) (fun _ hk => hk.2) (.slice Ao35 t175.length co35)) (fun _ hk => hk.2) (.int .i64 t178)) (fun _ hk => ⟨hk.1.1, hk.1.2⟩)))⟩; have n1_ : Aside0 (w38.heap[gb172]? = some (.cells #[.slice A0_0 l0_0.length c0_0, .int .i64 a0_1] 24 (0, 0))) := ⟨(by rw [hw]; exact (by (with_reducible repeat (first | refine blk_drewN ?_ _ | refine blk_drew ?_ | refine blk_alloc ?_ _)); refine blk_far ?_ NB172_180.out _; (with_reducible repeat (first | refine blk_drewN ?_ _ | refine blk_drew ?_ | refine blk_alloc ?_ _)); refine blk_far ?_ NB172_180.out _; (with_reducible repeat (first | refine blk_drewN ?_ _ | refine blk_drew ?_ | refine blk_alloc ?_ _)); exact BK172.out))⟩; have n2_ : Aside0 (w38.heap[gb180]? = some (.cells #[.slice Ao35 t175.length co35, .int .i64 t178] 24 (0, 0))) := ⟨(by rw [hw]; exact (by (with_reducible repeat (first | refine blk_drewN ?_ _ | refine blk_drew ?_ | refine blk_alloc ?_ _)); refine blk_put (cs := #[.slice Ao35 t175.length co35, .int .i64 0]) ?_ 1 _ rfl; (with_reducible repeat (first | refine blk_drewN ?_ _ | refine blk_drew ?_ | refine blk_alloc ?_ _)); refine blk_put (cs := #[.slice none 0 0, .int .i64 0]) ?_ 0 _ rfl; (with_reducible repeat (first | refine blk_drewN ?_ _ | refine blk_drew ?_ | refine blk_alloc ?_ _)); exact BK180.out))⟩; have n3_ : Aside0 (Below w.heap.size w w38) := ⟨(by rw [hw]; exact (by repeat (first | (with_reducible first | exact HB.out | apply below_alloc | apply pw_below_drewN | apply below_drew1 | refine below_set ?_ GE172.out | refine below_set ?_ GE180.out) | exact HB.out)))⟩; clear hw; clear HO177; clear BK172; clear BK180; clear HB; have HO177 := n0_; have BK172 := n1_; have BK180 := n2_; have HB := n3_; clear n0_ n1_ n2_ n3_; have hcz39_0 : w38.cell? ⟨gb172, 0, none⟩ = some (.slice A0_0 l0_0.length c0_0) := (blk_cell BK172.out 0).trans rfl; have hcz39_1 : w38.cell? ⟨gb172, 1, none⟩ = some (.int .i64 a0_1) := (blk_cell BK172.out 1).trans rfl; have hfz39_0 := blk_frozen BK172.out 0; have hfz39_1 := blk_frozen BK172.out 1) | ((with_reducible refine gate_callee (f := 10) rfl ?_); refine goesL_ (some 30) rfl rfl Try.func10 (by kernel_rfl) rfl #[.agg #[.slice A0_0 l0_0.length c0_0, .int .i64 a0_1], .int .i64 a2] rfl (by (try simp only [List.map_toArray, List.map_cons, List.map_nil]); first | done | rfl | (simp only [List.length_drop, List.length_take]; rfl)) ?_; (with_reducible refine (queue_Push_int.calls (fun k_ => k_ < w.heap.size) _ _ l0_0 a0_1 a2 t181 t184 t185 _ ?side1 A15.out).mono ?_); (case side1 => exact Kd.V_mk HC0_0.out (Kd.F_below (Kd.C_F (Kd.heap_int .i64) HR0_0.out) (by repeat (first | (with_reducible first | exact HB.out | apply below_alloc | apply pw_below_drewN | apply below_drew1 | refine below_set ?_ GE172.out | refine below_set ?_ GE180.out) | exact HB.out)))); rintro e w40 ⟨v182, rfl, ho0, hb⟩; refine ⟨_, rfl, ?_⟩; have n0_ := Aside0.mk (Kd.V_below (by (with_reducible repeat (first | apply Kd.V_alloc | apply Kd.V_drewN | apply Kd.V_drew)); exact HO177.out) hb); have n1_ := Aside0.mk (Kd.V_lower (Kd.V_mono (ok' := fun k_ => k_ ≠ gb172 ∧ k_ ≠ gb180) ho0 (fun k_ hk_ => ⟨Or.elim hk_ (fun hs_ => fun e_ => Nat.not_le.2 hs_ (by rw [e_]; exact GW172.out)) (fun hn_ => (Kd.freshB (g := gb172) (o := .cells #[.slice A0_0 l0_0.length c0_0, .int .i64 a0_1] 24 (0, 0)) (by (with_reducible repeat (first | refine blk_drewN ?_ _ | refine blk_drew ?_ | refine blk_alloc ?_ _)); exact BK172.out) k_ hn_)), Or.elim hk_ (fun hs_ => fun e_ => Nat.not_le.2 hs_ (by rw [e_]; exact GW180.out)) (fun hn_ => (Kd.freshB (g := gb180) (o := .cells #[.slice Ao35 t175.length co35, .int .i64 t178] 24 (0, 0)) (by (with_reducible repeat (first | refine blk_drewN ?_ _ | refine blk_drew ?_ | refine blk_alloc ?_ _)); exact BK180.out) k_ hn_))⟩)) (below_size (by repeat (first | (with_reducible first | exact HB.out | apply below_alloc | apply pw_below_drewN | apply below_drew1 | refine below_set ?_ GE172.out | refine below_set ?_ GE180.out) | exact HB.out)))); have n2_ := Aside0.mk (blk_below (g := gb172) (o := .cells #[.slice A0_0 l0_0.length c0_0, .int .i64 a0_1] 24 (0, 0)) (by (with_reducible repeat (first | refine blk_drewN ?_ _ | refine blk_drew ?_ | refine blk_alloc ?_ _)); exact BK172.out) hb); have n3_ := Aside0.mk (blk_below (g := gb180) (o := .cells #[.slice Ao35 t175.length co35, .int .i64 t178] 24 (0, 0)) (by (with_reducible repeat (first | refine blk_drewN ?_ _ | refine blk_drew ?_ | refine blk_alloc ?_ _)); exact BK180.out) hb); have n4_ := Aside0.mk (below_step (by repeat (first | (with_reducible first | exact HB.out | apply below_alloc | apply pw_below_drewN | apply below_drew1 | refine below_set ?_ GE172.out | refine below_set ?_ GE180.out) | exact HB.out)) hb); clear HO177; clear BK172; clear BK180; clear HB; have HO177 := n0_; have HO183 := n1_; have BK172 := n2_; have BK180 := n3_; have HB := n4_; clear n0_ n1_ n2_ n3_ n4_; (try clear hb); (try clear hb2); (try clear hk); (try clear hi); (try clear ho0)) | ((with_reducible refine gate_dst (N := 9) rfl ?_); (try (refine gate_guard (by rfl) ?_; dsimp only)); refine box_event ?hg (N := 9) ?hd (cs := #[.slice none 0 0, .int .i64 0]) (t := 24) ?hr ?_; (case hd => rfl); (case hg => rfl); (case hr => first | (go_simp; done) | (go_simp; rfl)); intro gb186 hg w41 hbox hb; have n0_ := Aside0.mk (Kd.V_below (Kd.V_elderB (by (with_reducible repeat (first | apply Kd.V_alloc | apply Kd.V_drewN | apply Kd.V_drew)); exact HO177.out) gb186 (Nat.le_of_eq hg.symm)) hb); have n1_ := Aside0.mk (Kd.V_below (Kd.V_elderB (by (with_reducible repeat (first | apply Kd.V_alloc | apply Kd.V_drewN | apply Kd.V_drew)); exact HO183.out) gb186 (Nat.le_of_eq hg.symm)) hb); have n2_ := Aside0.mk (blk_below (g := gb172) (o := .cells #[.slice A0_0 l0_0.length c0_0, .int .i64 a0_1] 24 (0, 0)) (by (with_reducible repeat (first | refine blk_drewN ?_ _ | refine blk_drew ?_ | refine blk_alloc ?_ _)); exact BK172.out) hb); have n3_ := Aside0.mk (blk_below (g := gb180) (o := .cells #[.slice Ao35 t175.length co35, .int .i64 t178] 24 (0, 0)) (by (with_reducible repeat (first | refine blk_drewN ?_ _ | refine blk_drew ?_ | refine blk_alloc ?_ _)); exact BK180.out) hb); have n4_ := Aside0.mk (below_step (by repeat (first | (with_reducible first | exact HB.out | apply below_alloc | apply pw_below_drewN | apply below_drew1 | refine below_set ?_ GE172.out | refine below_set ?_ GE180.out) | exact HB.out)) hb); have n5_ := Aside0.mk (hbox); have n6_ := Aside0.mk ((by rw [hg]; exact (below_size (by repeat (first | (with_reducible first | exact HB.out | apply below_alloc | apply pw_below_drewN | apply below_drew1 | refine below_set ?_ GE172.out | refine below_set ?_ GE180.out) | exact HB.out))) : w.heap.size ≤ gb186)); have n7_ := Aside0.mk ((by rw [hg]; exact (below_size (by repeat (first | (with_reducible first | exact HB.out | apply below_alloc | apply pw_below_drewN | apply below_drew1 | refine below_set ?_ GE172.out | refine below_set ?_ GE180.out) | exact HB.out))) : w.heap.size ≤ gb186)); have n8_ := Aside0.mk ((by rw [hg]; exact Nat.ne_of_lt (blk_lt (g := gb172) (o := .cells #[.slice A0_0 l0_0.length c0_0, .int .i64 a0_1] 24 (0, 0)) (by (with_reducible repeat (first | refine blk_drewN ?_ _ | refine blk_drew ?_ | refine blk_alloc ?_ _)); exact BK172.out)) : gb172 ≠ gb186)); have n9_ := Aside0.mk ((by rw [hg]; exact Nat.ne_of_gt (blk_lt (g := gb172) (o := .cells #[.slice A0_0 l0_0.length c0_0, .int .i64 a0_1] 24 (0, 0)) (by (with_reducible repeat (first | refine blk_drewN ?_ _ | refine blk_drew ?_ | refine blk_alloc ?_ _)); exact BK172.out)) : gb186 ≠ gb172)); have n10_ := Aside0.mk ((by rw [hg]; exact Nat.ne_of_lt (blk_lt (g := gb180) (o := .cells #[.slice Ao35 t175.length co35, .int .i64 t178] 24 (0, 0)) (by (with_reducible repeat (first | refine blk_drewN ?_ _ | refine blk_drew ?_ | refine blk_alloc ?_ _)); exact BK180.out)) : gb180 ≠ gb186)); have n11_ := Aside0.mk ((by rw [hg]; exact Nat.ne_of_gt (blk_lt (g := gb180) (o := .cells #[.slice Ao35 t175.length co35, .int .i64 t178] 24 (0, 0)) (by (with_reducible repeat (first | refine blk_drewN ?_ _ | refine blk_drew ?_ | refine blk_alloc ?_ _)); exact BK180.out)) : gb186 ≠ gb180)); clear HO177; clear HO183; clear BK172; clear BK180; clear HB; have HO177 := n0_; have HO183 := n1_; have BK172 := n2_; have BK180 := n3_; have HB := n4_; have BK186 := n5_; have GW186 := n6_; have GE186 := n7_; have NB172_186 := n8_; have NB186_172 := n9_; have NB180_186 := n10_; have NB186_180 := n11_; clear n0_ n1_ n2_ n3_ n4_ n5_ n6_ n7_ n8_ n9_ n10_ n11_; clear hb hbox hg; obtain ⟨Ao42, co42, eo42⟩ := Kd.V_slice HO183.out; subst eo42; have hnb43 := NB186_172.out; have hnc43 := NB172_186.out; have hnb44 := NB186_180.out; have hnc44 := NB180_186.out; have hcz45_0 : w41.cell? ⟨gb186, 0, none⟩ = some (.slice none 0 0) := (blk_cell BK186.out 0).trans rfl; have hcz45_1 : w41.cell? ⟨gb186, 1, none⟩ = some (.int .i64 0) := (blk_cell BK186.out 1).trans rfl; have hfz45_0 := blk_frozen BK186.out 0; have hfz45_1 := blk_frozen BK186.out 1; have hcz46_0 : w41.cell? ⟨gb172, 0, none⟩ = some (.slice A0_0 l0_0.length c0_0) := (blk_cell BK172.out 0).trans rfl; have hcz46_1 : w41.cell? ⟨gb172, 1, none⟩ = some (.int .i64 a0_1) := (blk_cell BK172.out 1).trans rfl; have hfz46_0 := blk_frozen BK172.out 0; have hfz46_1 := blk_frozen BK172.out 1))
                                have n0_ : Aside0 (Kd.V (Kd.int .i64) 3 ((w41.setCell ⟨gb186, 0, none⟩ (.slice Ao42 t181.length co42)).setCell ⟨gb186, 1, none⟩ (.int .i64 t184)) w.heap.size (fun k_ => k_ ≠ gb172 ∧ k_ ≠ gb180 ∧ k_ ≠ gb186) (.slice Ao35 t175.length co35) t175) := ⟨by (with_reducible repeat (first | apply Kd.V_alloc | apply Kd.V_drewN | apply Kd.V_drew)); exact Kd.V_mono (Kd.V_far (p := ⟨gb186, 1, none⟩) (Kd.V_far (p := ⟨gb186, 0, none⟩) (Kd.V_mono HO177.out (fun k_ hk => (⟨hk, hk.2⟩ : _ ∧ k_ ≠ gb186))) (fun _ hk => hk.2) (.slice Ao42 t181.length co42)) (fun _ hk => hk.2) (.int .i64 t184)) (fun _ hk => ⟨hk.1.1.1, ⟨hk.1.1.2, hk.1.2⟩⟩)⟩
                                have n1_ : Aside0 (Kd.V (Kd.int .i64) 3 ((w41.setCell ⟨gb186, 0, none⟩ (.slice Ao42 t181.length co42)).setCell ⟨gb186, 1, none⟩ (.int .i64 t184)) w.heap.size (fun k_ => k_ ≠ gb172 ∧ k_ ≠ gb180 ∧ k_ ≠ gb186) (.slice Ao42 t181.length co42) t181) := ⟨by (with_reducible repeat (first | apply Kd.V_alloc | apply Kd.V_drewN | apply Kd.V_drew)); exact Kd.V_mono (Kd.V_far (p := ⟨gb186, 1, none⟩) (Kd.V_far (p := ⟨gb186, 0, none⟩) (Kd.V_mono HO183.out (fun k_ hk => (⟨hk, hk.2⟩ : _ ∧ k_ ≠ gb186))) (fun _ hk => hk.2) (.slice Ao42 t181.length co42)) (fun _ hk => hk.2) (.int .i64 t184)) (fun _ hk => ⟨hk.1.1.1, ⟨hk.1.1.2, hk.1.2⟩⟩)⟩
                                have n2_ : Aside0 (((w41.setCell ⟨gb186, 0, none⟩ (.slice Ao42 t181.length co42)).setCell ⟨gb186, 1, none⟩ (.int .i64 t184)).heap[gb172]? = some (.cells #[.slice A0_0 l0_0.length c0_0, .int .i64 a0_1] 24 (0, 0))) := ⟨by (with_reducible repeat (first | refine blk_drewN ?_ _ | refine blk_drew ?_ | refine blk_alloc ?_ _)); refine blk_far ?_ NB172_186.out _; (with_reducible repeat (first | refine blk_drewN ?_ _ | refine blk_drew ?_ | refine blk_alloc ?_ _)); refine blk_far ?_ NB172_186.out _; (with_reducible repeat (first | refine blk_drewN ?_ _ | refine blk_drew ?_ | refine blk_alloc ?_ _)); exact BK172.out⟩
                                have n3_ : Aside0 (((w41.setCell ⟨gb186, 0, none⟩ (.slice Ao42 t181.length co42)).setCell ⟨gb186, 1, none⟩ (.int .i64 t184)).heap[gb180]? = some (.cells #[.slice Ao35 t175.length co35, .int .i64 t178] 24 (0, 0))) := ⟨by (with_reducible repeat (first | refine blk_drewN ?_ _ | refine blk_drew ?_ | refine blk_alloc ?_ _)); refine blk_far ?_ NB180_186.out _; (with_reducible repeat (first | refine blk_drewN ?_ _ | refine blk_drew ?_ | refine blk_alloc ?_ _)); refine blk_far ?_ NB180_186.out _; (with_reducible repeat (first | refine blk_drewN ?_ _ | refine blk_drew ?_ | refine blk_alloc ?_ _)); exact BK180.out⟩
                                have n4_ : Aside0 (((w41.setCell ⟨gb186, 0, none⟩ (.slice Ao42 t181.length co42)).setCell ⟨gb186, 1, none⟩ (.int .i64 t184)).heap[gb186]? = some (.cells #[.slice Ao42 t181.length co42, .int .i64 t184] 24 (0, 0))) := ⟨by (with_reducible repeat (first | refine blk_drewN ?_ _ | refine blk_drew ?_ | refine blk_alloc ?_ _)); refine blk_put (cs := #[.slice Ao42 t181.length co42, .int .i64 0]) ?_ 1 _ rfl; (with_reducible repeat (first | refine blk_drewN ?_ _ | refine blk_drew ?_ | refine blk_alloc ?_ _)); refine blk_put (cs := #[.slice none 0 0, .int .i64 0]) ?_ 0 _ rfl; (with_reducible repeat (first | refine blk_drewN ?_ _ | refine blk_drew ?_ | refine blk_alloc ?_ _)); exact BK186.out⟩
                                have n5_ : Aside0 (Below w.heap.size w ((w41.setCell ⟨gb186, 0, none⟩ (.slice Ao42 t181.length co42)).setCell ⟨gb186, 1, none⟩ (.int .i64 t184))) := ⟨by repeat (first | (with_reducible first | exact HB.out | apply below_alloc | apply pw_below_drewN | apply below_drew1 | refine below_set ?_ GE172.out | refine below_set ?_ GE180.out | refine below_set ?_ GE186.out) | exact HB.out)⟩
                                (try clear HO177)
                                (try clear HO183)
                                (try clear BK172)
                                (try clear BK180)
                                (try clear BK186)
                                (try clear HB)
                                generalize ((w41.setCell ⟨gb186, 0, none⟩ (.slice Ao42 t181.length co42)).setCell ⟨gb186, 1, none⟩ (.int .i64 t184)) = w47 at n0_ n1_ n2_ n3_ n4_ n5_ ⊢
                                have HO177 := n0_
                                have HO183 := n1_
                                have BK172 := n2_
                                have BK180 := n3_
                                have BK186 := n4_
                                have HB := n5_
                                clear n0_ n1_ n2_ n3_ n4_ n5_
                                have n0_ := Aside0.mk (Kd.V_drew HO177.out)
                                have n1_ := Aside0.mk (Kd.V_drew HO183.out)
                                have n2_ := Aside0.mk (blk_drew BK172.out)
                                have n3_ := Aside0.mk (blk_drew BK180.out)
                                have n4_ := Aside0.mk (blk_drew BK186.out)
                                have n5_ := Aside0.mk (below_drew1 HB.out)
                                clear HO177
                                clear HO183
                                clear BK172
                                clear BK180
                                clear BK186
                                clear HB
                                have HO177 := n0_
                                have HO183 := n1_
                                have BK172 := n2_
                                have BK180 := n3_
                                have BK186 := n4_
                                have HB := n5_
                                clear n0_ n1_ n2_ n3_ n4_ n5_
                                have p187 : 0 ≤ ((l0_0.length : Int) : Int) := of_decide_eq_true (by first | (with_reducible assumption) | assumption)
                                have q187 : (l0_0.length : Int) < (t175.length : Int) := of_decide_eq_true (by first | (with_reducible assumption) | assumption)
                                obtain ⟨ad187, e187, hx187_0⟩ := Kd.at_int (Kd.V_reads' HO177.out).2.2 (l0_0.length : Int) p187 q187
                                cases e187
                                (try simp only [Go.IntWalk.toNatUp] at hx187_0)
                                replace p187 := eq_true p187
                                replace q187 := eq_true q187
                                have p188 : 0 ≤ ((l0_0.length : Int) : Int) := of_decide_eq_true (by first | (with_reducible assumption) | assumption)
                                have q188 : (l0_0.length : Int) < (t181.length : Int) := of_decide_eq_true (by first | (with_reducible assumption) | assumption)
                                obtain ⟨ad188, e188, hx188_0⟩ := Kd.at_int (Kd.V_reads' HO183.out).2.2 (l0_0.length : Int) p188 q188
                                cases e188
                                (try simp only [Go.IntWalk.toNatUp] at hx188_0)
                                replace p188 := eq_true p188
                                replace q188 := eq_true q188
                                have q49 : ((l0_0.length : Int) : Int) ≤ ((t175.length : Int) : Int) := of_decide_eq_true (by first | (with_reducible assumption) | assumption)
                                obtain ⟨i049, hi049, _, hsz49, _⟩ := info_parts info3
                                have hroom49 : t175.length ≤ co35 := (Kd.V_reads' HO177.out).2.1
                                have hC49 : Kd.F (Kd.int .i64) _ _ (some ad187) t175.length t175 := (Kd.V_at (base := w.heap.size) HO177.out).2.2
                                have hcut49 := cut_to (P := Try.prog) 22 3 .i64 Try.underlying22 hi049 (some ad187) t175.length co35 (l0_0.length : Int) (of_decide_eq_true (by first | (with_reducible assumption) | assumption)) q49 hroom49
                                have hr49 := Kd.F_take (m := ((l0_0.length : Int) : Int).toNat) hC49 (by omega)
                                have hy49 : y189.length = ((l0_0.length : Int) : Int).toNat := (by rw [Ny189.out, List.length_take]; omega)
                                rw [← Ny189.out] at hr49
                                rw [← hy49] at hcut49
                                have HO193 := Aside0.mk (show Kd.V (Kd.int .i64) 3 _ w.heap.size _ (.slice (some ad187) y189.length co35) y189 from Kd.V_mk (by omega) hr49)
                                have HC193 := Aside0.mk (show y189.length ≤ co35 from by omega)
                                clear hr49 hC49 hroom49 hi049 hsz49
                                have KY49 := Aside0.mk hy49
                                clear hy49
                                replace q49 := eq_true q49
                                refine start_ (n := 55) (S := fun w' => w'.cell? ⟨gb180, 0, none⟩ = some (.slice (some ad187) t175.length co35) ∧ w'.cell? ⟨gb180, 1, none⟩ = some (.int .i64 t178) ∧ w'.cell? ⟨gb186, 0, none⟩ = some (.slice (some ad188) t181.length co42) ∧ w'.cell? ⟨gb186, 1, none⟩ = some (.int .i64 t184) ∧ w'.cell? ⟨gb172, 0, none⟩ = some (.slice A0_0 l0_0.length c0_0) ∧ w'.cell? ⟨gb172, 1, none⟩ = some (.int .i64 a0_1) ∧ w'.cell? (ad187.add ((l0_0.length : Int)).toNat) = some (.int .i64 (rd t175 (l0_0.length : Int))) ∧ w'.cell? (ad188.add ((l0_0.length : Int)).toNat) = some (.int .i64 (rd t181 (l0_0.length : Int)))) (ds := []) #[false, false, false, false, false, false, false, false, false, false, false, false, false, false, false, false, false, false, false, false, false, false, false, false, false, false, false, false, false, false, false, false, false, false, false, false, false, false, false, false, false, false, false, false, false, false, false, false, false, false, false, false, false, false, false] (by kernel_rfl) rfl rfl ⟨(blk_cell BK180.out 0).trans rfl, (blk_cell BK180.out 1).trans rfl, (blk_cell BK186.out 0).trans rfl, (blk_cell BK186.out 1).trans rfl, (blk_cell BK172.out 0).trans rfl, (blk_cell BK172.out 1).trans rfl, hx187_0, hx188_0⟩ (fun hHeld => ?_); refine with_tabW mortmainlaw02_QueueOwn.tab8 mortmainlaw02_QueueOwn.bits8 (fun HT_ HW_ => ?_)
                                generalize w47.drew = w48 at HO177 HO183 BK172 BK180 BK186 HB HO193 hx187_0 hx188_0 hHeld ⊢
                                refine pure_ (i := 0) (N := some 47) (v := ?_) (a' := ?_) #[true, false, false, false, false, false, false, false, false, false, false, false, false, false, false, false, false, false, false, false, false, false, false, false, false, false, false, false, false, false, false, false, false, false, false, false, false, false, false, false, false, false, false, false, false, false, false, false, false, false, false, false, false, false, false] rfl rfl (any_of HT_.out (by kernel_rfl)) (fun _ _ _ h => h) (Or.inl ⟨by rfl, ?_⟩) ?_ ?_
                                rotate_left
                                · intro w'
                                  go_simp
                                  with_reducible rfl
                                rotate_left
                                · simp only [Act.put, List.setIfInBounds_toArray, List.set_cons_zero, List.set_cons_succ, i64_w, i32_w]
                                  rfl
                                refine pure_ (i := 1) (N := some 48) (v := ?_) (a' := ?_) #[true, true, false, false, false, false, false, false, false, false, false, false, false, false, false, false, false, false, false, false, false, false, false, false, false, false, false, false, false, false, false, false, false, false, false, false, false, false, false, false, false, false, false, false, false, false, false, false, false, false, false, false, false, false, false] rfl rfl (any_of HT_.out (by kernel_rfl)) (fun _ _ _ h => h) (Or.inl ⟨by rfl, ?_⟩) ?_ ?_
                                rotate_left
                                · intro w'
                                  go_simp
                                  with_reducible rfl
                                rotate_left
                                · simp only [Act.put, List.setIfInBounds_toArray, List.set_cons_zero, List.set_cons_succ, i64_w, i32_w]
                                  rfl
                                refine pure_ (i := 2) (N := some 49) (v := ?_) (a' := ?_) #[true, true, true, false, false, false, false, false, false, false, false, false, false, false, false, false, false, false, false, false, false, false, false, false, false, false, false, false, false, false, false, false, false, false, false, false, false, false, false, false, false, false, false, false, false, false, false, false, false, false, false, false, false, false, false] rfl rfl (any_of HT_.out (by kernel_rfl)) (fun _ _ _ h => h) (Or.inl ⟨by rfl, ?_⟩) ?_ ?_
                                rotate_left
                                · intro w'
                                  go_simp
                                  with_reducible rfl
                                rotate_left
                                · simp only [Act.put, List.setIfInBounds_toArray, List.set_cons_zero, List.set_cons_succ, i64_w, i32_w]
                                  rfl
                                refine pure_ (i := 3) (N := some 50) (v := ?_) (a' := ?_) #[true, true, true, true, false, false, false, false, false, false, false, false, false, false, false, false, false, false, false, false, false, false, false, false, false, false, false, false, false, false, false, false, false, false, false, false, false, false, false, false, false, false, false, false, false, false, false, false, false, false, false, false, false, false, false] rfl rfl (any_of HT_.out (by kernel_rfl)) (fun _ _ _ h => h) (Or.inl ⟨by rfl, ?_⟩) ?_ ?_
                                rotate_left
                                · intro w'
                                  go_simp
                                  with_reducible rfl
                                rotate_left
                                · simp only [Act.put, List.setIfInBounds_toArray, List.set_cons_zero, List.set_cons_succ, i64_w, i32_w]
                                  rfl
                                refine pure_ (i := 6) (N := some 53) (v := ?_) (a' := ?_) #[true, true, true, true, false, false, true, false, false, false, false, false, false, false, false, false, false, false, false, false, false, false, false, false, false, false, false, false, false, false, false, false, false, false, false, false, false, false, false, false, false, false, false, false, false, false, false, false, false, false, false, false, false, false, false] rfl rfl (any_of HT_.out (by kernel_rfl)) (fun _ _ _ h => h) (Or.inl ⟨by rfl, ?_⟩) ?_ ?_
                                rotate_left
                                · intro w'
                                  go_simp
                                  with_reducible rfl
                                rotate_left
                                · simp only [Act.put, List.setIfInBounds_toArray, List.set_cons_zero, List.set_cons_succ, i64_w, i32_w]
                                  rfl
                                refine pure_ (i := 7) (N := some 54) (v := ?_) (a' := ?_) #[true, true, true, true, false, false, true, true, false, false, false, false, false, false, false, false, false, false, false, false, false, false, false, false, false, false, false, false, false, false, false, false, false, false, false, false, false, false, false, false, false, false, false, false, false, false, false, false, false, false, false, false, false, false, false] rfl rfl (any_of HT_.out (by kernel_rfl)) (fun _ _ _ h => h) (Or.inl ⟨by rfl, ?_⟩) ?_ ?_
                                rotate_left
                                · intro w'
                                  go_simp
                                  with_reducible rfl
                                rotate_left
                                · simp only [Act.put, List.setIfInBounds_toArray, List.set_cons_zero, List.set_cons_succ, i64_w, i32_w]
                                  rfl
                                refine take_ (i := 4) (N := some 51) (v := ?_) (a' := ?_) #[true, true, true, true, true, false, true, true, false, false, false, false, false, false, false, false, false, false, false, false, false, false, false, false, false, false, false, false, false, false, false, false, false, false, false, false, false, false, false, false, false, false, false, false, false, false, false, false, false, false, false, false, false, false, false] rfl rfl (take_ofW HT_.out HW_.out (by kernel_rfl)) (fun _ _ _ h => h) (Or.inl ⟨by rfl, ?_⟩) hHeld ?_ ?_
                                rotate_left
                                · rintro w' ⟨s0, s1, s2, s3, s4, s5, s6, s7⟩
                                  try simp only [Int.toNat_natCast] at s0 s1 s2 s3 s4 s5 s6 s7
                                  go_simp
                                  with_reducible rfl
                                rotate_left
                                · simp only [Act.put, List.setIfInBounds_toArray, List.set_cons_zero, List.set_cons_succ, i64_w, i32_w]
                                  rfl
                                refine pure_ (i := 5) (N := some 52) (v := ?_) (a' := ?_) #[true, true, true, true, true, true, true, true, false, false, false, false, false, false, false, false, false, false, false, false, false, false, false, false, false, false, false, false, false, false, false, false, false, false, false, false, false, false, false, false, false, false, false, false, false, false, false, false, false, false, false, false, false, false, false] rfl rfl (any_of HT_.out (by kernel_rfl)) (fun _ _ _ h => h) (Or.inl ⟨by rfl, ?_⟩) ?_ ?_
                                rotate_left
                                · intro w'
                                  go_simp
                                  with_reducible rfl
                                rotate_left
                                · simp only [Act.put, List.setIfInBounds_toArray, List.set_cons_zero, List.set_cons_succ, i64_w, i32_w]
                                  rfl
                                refine pure_ (i := 8) (N := some 55) (v := ?_) (a' := ?_) #[true, true, true, true, true, true, true, true, true, false, false, false, false, false, false, false, false, false, false, false, false, false, false, false, false, false, false, false, false, false, false, false, false, false, false, false, false, false, false, false, false, false, false, false, false, false, false, false, false, false, false, false, false, false, false] rfl rfl (any_of HT_.out (by kernel_rfl)) (fun _ _ _ h => h) (Or.inl ⟨by rfl, ?_⟩) ?_ ?_
                                rotate_left
                                · intro w'
                                  go_simp
                                  with_reducible rfl
                                rotate_left
                                · simp only [Act.put, List.setIfInBounds_toArray, List.set_cons_zero, List.set_cons_succ, i64_w, i32_w]
                                  rfl
                                refine pure_ (i := 9) (N := some 56) (v := ?_) (a' := ?_) #[true, true, true, true, true, true, true, true, true, true, false, false, false, false, false, false, false, false, false, false, false, false, false, false, false, false, false, false, false, false, false, false, false, false, false, false, false, false, false, false, false, false, false, false, false, false, false, false, false, false, false, false, false, false, false] rfl rfl (any_of HT_.out (by kernel_rfl)) (fun _ _ _ h => h) (Or.inl ⟨by rfl, ?_⟩) ?_ ?_
                                rotate_left
                                · intro w'
                                  go_simp
                                  with_reducible rfl
                                rotate_left
                                · simp only [Act.put, List.setIfInBounds_toArray, List.set_cons_zero, List.set_cons_succ, i64_w, i32_w]
                                  rfl
                                refine pure_ (i := 10) (N := some 57) (v := ?_) (a' := ?_) #[true, true, true, true, true, true, true, true, true, true, true, false, false, false, false, false, false, false, false, false, false, false, false, false, false, false, false, false, false, false, false, false, false, false, false, false, false, false, false, false, false, false, false, false, false, false, false, false, false, false, false, false, false, false, false] rfl rfl (any_of HT_.out (by kernel_rfl)) (fun _ _ _ h => h) (Or.inl ⟨by rfl, ?_⟩) ?_ ?_
                                rotate_left
                                · intro w'
                                  go_simp
                                  with_reducible rfl
                                rotate_left
                                · simp only [Act.put, List.setIfInBounds_toArray, List.set_cons_zero, List.set_cons_succ, i64_w, i32_w]
                                  rfl
                                refine pure_ (i := 11) (N := some 58) (v := ?_) (a' := ?_) #[true, true, true, true, true, true, true, true, true, true, true, true, false, false, false, false, false, false, false, false, false, false, false, false, false, false, false, false, false, false, false, false, false, false, false, false, false, false, false, false, false, false, false, false, false, false, false, false, false, false, false, false, false, false, false] rfl rfl (any_of HT_.out (by kernel_rfl)) (fun _ _ _ h => h) (Or.inl ⟨by rfl, ?_⟩) ?_ ?_
                                rotate_left
                                · intro w'
                                  go_simp
                                  with_reducible rfl
                                rotate_left
                                · simp only [Act.put, List.setIfInBounds_toArray, List.set_cons_zero, List.set_cons_succ, i64_w, i32_w]
                                  rfl
                                refine pure_ (i := 14) (N := some 61) (v := ?_) (a' := ?_) #[true, true, true, true, true, true, true, true, true, true, true, true, false, false, true, false, false, false, false, false, false, false, false, false, false, false, false, false, false, false, false, false, false, false, false, false, false, false, false, false, false, false, false, false, false, false, false, false, false, false, false, false, false, false, false] rfl rfl (any_of HT_.out (by kernel_rfl)) (fun _ _ _ h => h) (Or.inl ⟨by rfl, ?_⟩) ?_ ?_
                                rotate_left
                                · intro w'
                                  go_simp
                                  with_reducible rfl
                                rotate_left
                                · simp only [Act.put, List.setIfInBounds_toArray, List.set_cons_zero, List.set_cons_succ, i64_w, i32_w]
                                  rfl
                                refine pure_ (i := 15) (N := some 62) (v := ?_) (a' := ?_) #[true, true, true, true, true, true, true, true, true, true, true, true, false, false, true, true, false, false, false, false, false, false, false, false, false, false, false, false, false, false, false, false, false, false, false, false, false, false, false, false, false, false, false, false, false, false, false, false, false, false, false, false, false, false, false] rfl rfl (any_of HT_.out (by kernel_rfl)) (fun _ _ _ h => h) (Or.inl ⟨by rfl, ?_⟩) ?_ ?_
                                rotate_left
                                · intro w'
                                  go_simp
                                  with_reducible rfl
                                rotate_left
                                · simp only [Act.put, List.setIfInBounds_toArray, List.set_cons_zero, List.set_cons_succ, i64_w, i32_w]
                                  rfl
                                refine take_ (i := 12) (N := some 59) (v := ?_) (a' := ?_) #[true, true, true, true, true, true, true, true, true, true, true, true, true, false, true, true, false, false, false, false, false, false, false, false, false, false, false, false, false, false, false, false, false, false, false, false, false, false, false, false, false, false, false, false, false, false, false, false, false, false, false, false, false, false, false] rfl rfl (take_ofW HT_.out HW_.out (by kernel_rfl)) (fun _ _ _ h => h) (Or.inl ⟨by rfl, ?_⟩) hHeld ?_ ?_
                                rotate_left
                                · rintro w' ⟨s0, s1, s2, s3, s4, s5, s6, s7⟩
                                  try simp only [Int.toNat_natCast] at s0 s1 s2 s3 s4 s5 s6 s7
                                  go_simp
                                  with_reducible rfl
                                rotate_left
                                · simp only [Act.put, List.setIfInBounds_toArray, List.set_cons_zero, List.set_cons_succ, i64_w, i32_w]
                                  rfl
                                refine pure_ (i := 13) (N := some 60) (v := ?_) (a' := ?_) #[true, true, true, true, true, true, true, true, true, true, true, true, true, true, true, true, false, false, false, false, false, false, false, false, false, false, false, false, false, false, false, false, false, false, false, false, false, false, false, false, false, false, false, false, false, false, false, false, false, false, false, false, false, false, false] rfl rfl (any_of HT_.out (by kernel_rfl)) (fun _ _ _ h => h) (Or.inl ⟨by rfl, ?_⟩) ?_ ?_
                                rotate_left
                                · intro w'
                                  go_simp
                                  with_reducible rfl
                                rotate_left
                                · simp only [Act.put, List.setIfInBounds_toArray, List.set_cons_zero, List.set_cons_succ, i64_w, i32_w]
                                  rfl
                                refine pure_ (i := 16) (N := some 63) (v := ?_) (a' := ?_) #[true, true, true, true, true, true, true, true, true, true, true, true, true, true, true, true, true, false, false, false, false, false, false, false, false, false, false, false, false, false, false, false, false, false, false, false, false, false, false, false, false, false, false, false, false, false, false, false, false, false, false, false, false, false, false] rfl rfl (any_of HT_.out (by kernel_rfl)) (fun _ _ _ h => h) (Or.inl ⟨by rfl, ?_⟩) ?_ ?_
                                rotate_left
                                · intro w'
                                  go_simp
                                  with_reducible rfl
                                rotate_left
                                · simp only [Act.put, List.setIfInBounds_toArray, List.set_cons_zero, List.set_cons_succ, i64_w, i32_w]
                                  rfl
                                refine pure_ (i := 17) (N := some 64) (v := ?_) (a' := ?_) #[true, true, true, true, true, true, true, true, true, true, true, true, true, true, true, true, true, true, false, false, false, false, false, false, false, false, false, false, false, false, false, false, false, false, false, false, false, false, false, false, false, false, false, false, false, false, false, false, false, false, false, false, false, false, false] rfl rfl (any_of HT_.out (by kernel_rfl)) (fun _ _ _ h => h) (Or.inl ⟨by rfl, ?_⟩) ?_ ?_
                                rotate_left
                                · intro w'
                                  go_simp
                                  with_reducible rfl
                                rotate_left
                                · simp only [Act.put, List.setIfInBounds_toArray, List.set_cons_zero, List.set_cons_succ, i64_w, i32_w]
                                  rfl
                                refine pure_ (i := 18) (N := some 65) (v := ?_) (a' := ?_) #[true, true, true, true, true, true, true, true, true, true, true, true, true, true, true, true, true, true, true, false, false, false, false, false, false, false, false, false, false, false, false, false, false, false, false, false, false, false, false, false, false, false, false, false, false, false, false, false, false, false, false, false, false, false, false] rfl rfl (any_of HT_.out (by kernel_rfl)) (fun _ _ _ h => h) (Or.inl ⟨by rfl, ?_⟩) ?_ ?_
                                rotate_left
                                · intro w'
                                  go_simp
                                  with_reducible rfl
                                rotate_left
                                · simp only [Act.put, List.setIfInBounds_toArray, List.set_cons_zero, List.set_cons_succ, i64_w, i32_w]
                                  rfl
                                refine pure_ (i := 19) (N := some 66) (v := ?_) (a' := ?_) #[true, true, true, true, true, true, true, true, true, true, true, true, true, true, true, true, true, true, true, true, false, false, false, false, false, false, false, false, false, false, false, false, false, false, false, false, false, false, false, false, false, false, false, false, false, false, false, false, false, false, false, false, false, false, false] rfl rfl (any_of HT_.out (by kernel_rfl)) (fun _ _ _ h => h) (Or.inl ⟨by rfl, ?_⟩) ?_ ?_
                                rotate_left
                                · intro w'
                                  go_simp
                                  with_reducible rfl
                                rotate_left
                                · simp only [Act.put, List.setIfInBounds_toArray, List.set_cons_zero, List.set_cons_succ, i64_w, i32_w]
                                  rfl
                                refine pure_ (i := 21) (N := some 68) (v := ?_) (a' := ?_) #[true, true, true, true, true, true, true, true, true, true, true, true, true, true, true, true, true, true, true, true, false, true, false, false, false, false, false, false, false, false, false, false, false, false, false, false, false, false, false, false, false, false, false, false, false, false, false, false, false, false, false, false, false, false, false] rfl rfl (any_of HT_.out (by kernel_rfl)) (fun _ _ _ h => h) (Or.inl ⟨by rfl, ?_⟩) ?_ ?_
                                rotate_left
                                · intro w'
                                  go_simp
                                  with_reducible rfl
                                rotate_left
                                · simp only [Act.put, List.setIfInBounds_toArray, List.set_cons_zero, List.set_cons_succ, i64_w, i32_w]
                                  rfl
                                refine pure_ (i := 24) (N := some 71) (v := ?_) (a' := ?_) #[true, true, true, true, true, true, true, true, true, true, true, true, true, true, true, true, true, true, true, true, false, true, false, false, true, false, false, false, false, false, false, false, false, false, false, false, false, false, false, false, false, false, false, false, false, false, false, false, false, false, false, false, false, false, false] rfl rfl (any_of HT_.out (by kernel_rfl)) (fun _ _ _ h => h) (Or.inl ⟨by rfl, ?_⟩) ?_ ?_
                                rotate_left
                                · intro w'
                                  go_simp
                                  with_reducible rfl
                                rotate_left
                                · simp only [Act.put, List.setIfInBounds_toArray, List.set_cons_zero, List.set_cons_succ, i64_w, i32_w]
                                  rfl
                                refine take_ (i := 20) (N := some 67) (v := ?_) (a' := ?_) #[true, true, true, true, true, true, true, true, true, true, true, true, true, true, true, true, true, true, true, true, true, true, false, false, true, false, false, false, false, false, false, false, false, false, false, false, false, false, false, false, false, false, false, false, false, false, false, false, false, false, false, false, false, false, false] rfl rfl (take_ofW HT_.out HW_.out (by kernel_rfl)) (fun _ _ _ h => h) (Or.inl ⟨by rfl, ?_⟩) hHeld ?_ ?_
                                rotate_left
                                · rintro w' ⟨s0, s1, s2, s3, s4, s5, s6, s7⟩
                                  try simp only [Int.toNat_natCast] at s0 s1 s2 s3 s4 s5 s6 s7
                                  go_simp
                                  with_reducible rfl
                                rotate_left
                                · simp only [Act.put, List.setIfInBounds_toArray, List.set_cons_zero, List.set_cons_succ, i64_w, i32_w]
                                  rfl
                                refine pure_ (i := 22) (N := some 69) (v := ?_) (a' := ?_) #[true, true, true, true, true, true, true, true, true, true, true, true, true, true, true, true, true, true, true, true, true, true, true, false, true, false, false, false, false, false, false, false, false, false, false, false, false, false, false, false, false, false, false, false, false, false, false, false, false, false, false, false, false, false, false] rfl rfl (any_of HT_.out (by kernel_rfl)) (fun _ _ _ h => h) (Or.inl ⟨by rfl, ?_⟩) ?_ ?_
                                rotate_left
                                · intro w'
                                  go_simp
                                  with_reducible rfl
                                rotate_left
                                · simp only [Act.put, List.setIfInBounds_toArray, List.set_cons_zero, List.set_cons_succ, i64_w, i32_w]
                                  rfl
                                refine take_ (i := 23) (N := some 70) (v := ?_) (a' := ?_) #[true, true, true, true, true, true, true, true, true, true, true, true, true, true, true, true, true, true, true, true, true, true, true, true, true, false, false, false, false, false, false, false, false, false, false, false, false, false, false, false, false, false, false, false, false, false, false, false, false, false, false, false, false, false, false] rfl rfl (take_ofW HT_.out HW_.out (by kernel_rfl)) (fun _ _ _ h => h) (Or.inl ⟨by rfl, ?_⟩) hHeld ?_ ?_
                                rotate_left
                                · rintro w' ⟨s0, s1, s2, s3, s4, s5, s6, s7⟩
                                  try simp only [Int.toNat_natCast] at s0 s1 s2 s3 s4 s5 s6 s7
                                  go_simp
                                  with_reducible rfl
                                rotate_left
                                · simp only [Act.put, List.setIfInBounds_toArray, List.set_cons_zero, List.set_cons_succ, i64_w, i32_w]
                                  rfl
                                refine pure_ (i := 25) (N := some 72) (v := ?_) (a' := ?_) #[true, true, true, true, true, true, true, true, true, true, true, true, true, true, true, true, true, true, true, true, true, true, true, true, true, true, false, false, false, false, false, false, false, false, false, false, false, false, false, false, false, false, false, false, false, false, false, false, false, false, false, false, false, false, false] rfl rfl (any_of HT_.out (by kernel_rfl)) (fun _ _ _ h => h) (Or.inl ⟨by rfl, ?_⟩) ?_ ?_
                                rotate_left
                                · intro w'
                                  go_simp
                                  with_reducible rfl
                                rotate_left
                                · simp only [Act.put, List.setIfInBounds_toArray, List.set_cons_zero, List.set_cons_succ, i64_w, i32_w]
                                  rfl
                                refine pure_ (i := 26) (N := some 73) (v := ?_) (a' := ?_) #[true, true, true, true, true, true, true, true, true, true, true, true, true, true, true, true, true, true, true, true, true, true, true, true, true, true, true, false, false, false, false, false, false, false, false, false, false, false, false, false, false, false, false, false, false, false, false, false, false, false, false, false, false, false, false] rfl rfl (any_of HT_.out (by kernel_rfl)) (fun _ _ _ h => h) (Or.inl ⟨by rfl, ?_⟩) ?_ ?_
                                rotate_left
                                · intro w'
                                  go_simp
                                  with_reducible rfl
                                rotate_left
                                · simp only [Act.put, List.setIfInBounds_toArray, List.set_cons_zero, List.set_cons_succ, i64_w, i32_w]
                                  rfl
                                refine pure_ (i := 27) (N := some 74) (v := ?_) (a' := ?_) #[true, true, true, true, true, true, true, true, true, true, true, true, true, true, true, true, true, true, true, true, true, true, true, true, true, true, true, true, false, false, false, false, false, false, false, false, false, false, false, false, false, false, false, false, false, false, false, false, false, false, false, false, false, false, false] rfl rfl (any_of HT_.out (by kernel_rfl)) (fun _ _ _ h => h) (Or.inl ⟨by rfl, ?_⟩) ?_ ?_
                                rotate_left
                                · intro w'
                                  go_simp
                                  with_reducible rfl
                                rotate_left
                                · simp only [Act.put, List.setIfInBounds_toArray, List.set_cons_zero, List.set_cons_succ, i64_w, i32_w]
                                  rfl
                                refine pure_ (i := 28) (N := some 75) (v := ?_) (a' := ?_) #[true, true, true, true, true, true, true, true, true, true, true, true, true, true, true, true, true, true, true, true, true, true, true, true, true, true, true, true, true, false, false, false, false, false, false, false, false, false, false, false, false, false, false, false, false, false, false, false, false, false, false, false, false, false, false] rfl rfl (any_of HT_.out (by kernel_rfl)) (fun _ _ _ h => h) (Or.inl ⟨by rfl, ?_⟩) ?_ ?_
                                rotate_left
                                · intro w'
                                  go_simp
                                  with_reducible rfl
                                rotate_left
                                · simp only [Act.put, List.setIfInBounds_toArray, List.set_cons_zero, List.set_cons_succ, i64_w, i32_w]
                                  rfl
                                refine pure_ (i := 30) (N := some 77) (v := ?_) (a' := ?_) #[true, true, true, true, true, true, true, true, true, true, true, true, true, true, true, true, true, true, true, true, true, true, true, true, true, true, true, true, true, false, true, false, false, false, false, false, false, false, false, false, false, false, false, false, false, false, false, false, false, false, false, false, false, false, false] rfl rfl (any_of HT_.out (by kernel_rfl)) (fun _ _ _ h => h) (Or.inl ⟨by rfl, ?_⟩) ?_ ?_
                                rotate_left
                                · intro w'
                                  go_simp
                                  with_reducible rfl
                                rotate_left
                                · simp only [Act.put, List.setIfInBounds_toArray, List.set_cons_zero, List.set_cons_succ, i64_w, i32_w]
                                  rfl
                                refine pure_ (i := 33) (N := some 80) (v := ?_) (a' := ?_) #[true, true, true, true, true, true, true, true, true, true, true, true, true, true, true, true, true, true, true, true, true, true, true, true, true, true, true, true, true, false, true, false, false, true, false, false, false, false, false, false, false, false, false, false, false, false, false, false, false, false, false, false, false, false, false] rfl rfl (any_of HT_.out (by kernel_rfl)) (fun _ _ _ h => h) (Or.inl ⟨by rfl, ?_⟩) ?_ ?_
                                rotate_left
                                · intro w'
                                  go_simp
                                  with_reducible rfl
                                rotate_left
                                · simp only [Act.put, List.setIfInBounds_toArray, List.set_cons_zero, List.set_cons_succ, i64_w, i32_w]
                                  rfl
                                refine take_ (i := 29) (N := some 76) (v := ?_) (a' := ?_) #[true, true, true, true, true, true, true, true, true, true, true, true, true, true, true, true, true, true, true, true, true, true, true, true, true, true, true, true, true, true, true, false, false, true, false, false, false, false, false, false, false, false, false, false, false, false, false, false, false, false, false, false, false, false, false] rfl rfl (take_ofW HT_.out HW_.out (by kernel_rfl)) (fun _ _ _ h => h) (Or.inl ⟨by rfl, ?_⟩) hHeld ?_ ?_
                                rotate_left
                                · rintro w' ⟨s0, s1, s2, s3, s4, s5, s6, s7⟩
                                  try simp only [Int.toNat_natCast] at s0 s1 s2 s3 s4 s5 s6 s7
                                  go_simp
                                  with_reducible rfl
                                rotate_left
                                · simp only [Act.put, List.setIfInBounds_toArray, List.set_cons_zero, List.set_cons_succ, i64_w, i32_w]
                                  rfl
                                refine pure_ (i := 31) (N := some 78) (v := ?_) (a' := ?_) #[true, true, true, true, true, true, true, true, true, true, true, true, true, true, true, true, true, true, true, true, true, true, true, true, true, true, true, true, true, true, true, true, false, true, false, false, false, false, false, false, false, false, false, false, false, false, false, false, false, false, false, false, false, false, false] rfl rfl (any_of HT_.out (by kernel_rfl)) (fun _ _ _ h => h) (Or.inl ⟨by rfl, ?_⟩) ?_ ?_
                                rotate_left
                                · intro w'
                                  go_simp
                                  with_reducible rfl
                                rotate_left
                                · simp only [Act.put, List.setIfInBounds_toArray, List.set_cons_zero, List.set_cons_succ, i64_w, i32_w]
                                  rfl
                                refine take_ (i := 32) (N := some 79) (v := ?_) (a' := ?_) #[true, true, true, true, true, true, true, true, true, true, true, true, true, true, true, true, true, true, true, true, true, true, true, true, true, true, true, true, true, true, true, true, true, true, false, false, false, false, false, false, false, false, false, false, false, false, false, false, false, false, false, false, false, false, false] rfl rfl (take_ofW HT_.out HW_.out (by kernel_rfl)) (fun _ _ _ h => h) (Or.inl ⟨by rfl, ?_⟩) hHeld ?_ ?_
                                rotate_left
                                · rintro w' ⟨s0, s1, s2, s3, s4, s5, s6, s7⟩
                                  try simp only [Int.toNat_natCast] at s0 s1 s2 s3 s4 s5 s6 s7
                                  go_simp
                                  with_reducible rfl
                                rotate_left
                                · simp only [Act.put, List.setIfInBounds_toArray, List.set_cons_zero, List.set_cons_succ, i64_w, i32_w]
                                  rfl
                                refine pure_ (i := 34) (N := some 81) (v := ?_) (a' := ?_) #[true, true, true, true, true, true, true, true, true, true, true, true, true, true, true, true, true, true, true, true, true, true, true, true, true, true, true, true, true, true, true, true, true, true, true, false, false, false, false, false, false, false, false, false, false, false, false, false, false, false, false, false, false, false, false] rfl rfl (any_of HT_.out (by kernel_rfl)) (fun _ _ _ h => h) (Or.inl ⟨by rfl, ?_⟩) ?_ ?_
                                rotate_left
                                · intro w'
                                  go_simp
                                  with_reducible rfl
                                rotate_left
                                · simp only [Act.put, List.setIfInBounds_toArray, List.set_cons_zero, List.set_cons_succ, i64_w, i32_w]
                                  rfl
                                refine pure_ (i := 35) (N := some 82) (v := ?_) (a' := ?_) #[true, true, true, true, true, true, true, true, true, true, true, true, true, true, true, true, true, true, true, true, true, true, true, true, true, true, true, true, true, true, true, true, true, true, true, true, false, false, false, false, false, false, false, false, false, false, false, false, false, false, false, false, false, false, false] rfl rfl (any_of HT_.out (by kernel_rfl)) (fun _ _ _ h => h) (Or.inl ⟨by rfl, ?_⟩) ?_ ?_
                                rotate_left
                                · intro w'
                                  go_simp
                                  with_reducible rfl
                                rotate_left
                                · simp only [Act.put, List.setIfInBounds_toArray, List.set_cons_zero, List.set_cons_succ, i64_w, i32_w]
                                  rfl
                                refine pure_ (i := 36) (N := some 83) (v := ?_) (a' := ?_) #[true, true, true, true, true, true, true, true, true, true, true, true, true, true, true, true, true, true, true, true, true, true, true, true, true, true, true, true, true, true, true, true, true, true, true, true, true, false, false, false, false, false, false, false, false, false, false, false, false, false, false, false, false, false, false] rfl rfl (any_of HT_.out (by kernel_rfl)) (fun _ _ _ h => h) (Or.inl ⟨by rfl, ?_⟩) ?_ ?_
                                rotate_left
                                · intro w'
                                  go_simp
                                  with_reducible rfl
                                rotate_left
                                · simp only [Act.put, List.setIfInBounds_toArray, List.set_cons_zero, List.set_cons_succ, i64_w, i32_w]
                                  rfl
                                refine pure_ (i := 37) (N := some 84) (v := ?_) (a' := ?_) #[true, true, true, true, true, true, true, true, true, true, true, true, true, true, true, true, true, true, true, true, true, true, true, true, true, true, true, true, true, true, true, true, true, true, true, true, true, true, false, false, false, false, false, false, false, false, false, false, false, false, false, false, false, false, false] rfl rfl (any_of HT_.out (by kernel_rfl)) (fun _ _ _ h => h) (Or.inl ⟨by rfl, ?_⟩) ?_ ?_
                                rotate_left
                                · intro w'
                                  go_simp
                                  with_reducible rfl
                                rotate_left
                                · simp only [Act.put, List.setIfInBounds_toArray, List.set_cons_zero, List.set_cons_succ, i64_w, i32_w]
                                  rfl
                                refine pure_ (i := 39) (N := some 86) (v := ?_) (a' := ?_) #[true, true, true, true, true, true, true, true, true, true, true, true, true, true, true, true, true, true, true, true, true, true, true, true, true, true, true, true, true, true, true, true, true, true, true, true, true, true, false, true, false, false, false, false, false, false, false, false, false, false, false, false, false, false, false] rfl rfl (any_of HT_.out (by kernel_rfl)) (fun _ _ _ h => h) (Or.inl ⟨by rfl, ?_⟩) ?_ ?_
                                rotate_left
                                · intro w'
                                  go_simp
                                  with_reducible rfl
                                rotate_left
                                · simp only [Act.put, List.setIfInBounds_toArray, List.set_cons_zero, List.set_cons_succ, i64_w, i32_w]
                                  rfl
                                refine pure_ (i := 41) (N := some 88) (v := ?_) (a' := ?_) #[true, true, true, true, true, true, true, true, true, true, true, true, true, true, true, true, true, true, true, true, true, true, true, true, true, true, true, true, true, true, true, true, true, true, true, true, true, true, false, true, false, true, false, false, false, false, false, false, false, false, false, false, false, false, false] rfl rfl (any_of HT_.out (by kernel_rfl)) (fun _ _ _ h => h) (Or.inl ⟨by rfl, ?_⟩) ?_ ?_
                                rotate_left
                                · intro w'
                                  go_simp
                                  with_reducible rfl
                                rotate_left
                                · simp only [Act.put, List.setIfInBounds_toArray, List.set_cons_zero, List.set_cons_succ, i64_w, i32_w]
                                  rfl
                                refine take_ (i := 38) (N := some 85) (v := ?_) (a' := ?_) #[true, true, true, true, true, true, true, true, true, true, true, true, true, true, true, true, true, true, true, true, true, true, true, true, true, true, true, true, true, true, true, true, true, true, true, true, true, true, true, true, false, true, false, false, false, false, false, false, false, false, false, false, false, false, false] rfl rfl (take_ofW HT_.out HW_.out (by kernel_rfl)) (fun _ _ _ h => h) (Or.inl ⟨by rfl, ?_⟩) hHeld ?_ ?_
                                rotate_left
                                · rintro w' ⟨s0, s1, s2, s3, s4, s5, s6, s7⟩
                                  try simp only [Int.toNat_natCast] at s0 s1 s2 s3 s4 s5 s6 s7
                                  go_simp
                                  with_reducible rfl
                                rotate_left
                                · simp only [Act.put, List.setIfInBounds_toArray, List.set_cons_zero, List.set_cons_succ, i64_w, i32_w]
                                  rfl
                                refine pure_ (i := 40) (N := some 87) (v := ?_) (a' := ?_) #[true, true, true, true, true, true, true, true, true, true, true, true, true, true, true, true, true, true, true, true, true, true, true, true, true, true, true, true, true, true, true, true, true, true, true, true, true, true, true, true, true, true, false, false, false, false, false, false, false, false, false, false, false, false, false] rfl rfl (any_of HT_.out (by kernel_rfl)) (fun _ _ _ h => h) (Or.inl ⟨by rfl, ?_⟩) ?_ ?_
                                rotate_left
                                · intro w'
                                  go_simp
                                  with_reducible rfl
                                rotate_left
                                · simp only [Act.put, List.setIfInBounds_toArray, List.set_cons_zero, List.set_cons_succ, i64_w, i32_w]
                                  rfl
                                refine take_ (i := 42) (N := some 89) (v := ?_) (a' := ?_) #[true, true, true, true, true, true, true, true, true, true, true, true, true, true, true, true, true, true, true, true, true, true, true, true, true, true, true, true, true, true, true, true, true, true, true, true, true, true, true, true, true, true, true, false, false, false, false, false, false, false, false, false, false, false, false] rfl rfl (take_ofW HT_.out HW_.out (by kernel_rfl)) (fun _ _ _ h => h) (Or.inl ⟨by rfl, ?_⟩) hHeld ?_ ?_
                                rotate_left
                                · rintro w' ⟨s0, s1, s2, s3, s4, s5, s6, s7⟩
                                  try simp only [Int.toNat_natCast] at s0 s1 s2 s3 s4 s5 s6 s7
                                  go_simp
                                  with_reducible rfl
                                rotate_left
                                · simp only [Act.put, List.setIfInBounds_toArray, List.set_cons_zero, List.set_cons_succ, i64_w, i32_w]
                                  rfl
                                refine one_ (i := 43) (N := some 90) #[true, true, true, true, true, true, true, true, true, true, true, true, true, true, true, true, true, true, true, true, true, true, true, true, true, true, true, true, true, true, true, true, true, true, true, true, true, true, true, true, true, true, true, true, false, false, false, false, false, false, false, false, false, false, false] rfl rfl (one_of HT_.out (by kernel_rfl)) (by decide) (fun K hK => ?_)
                                refine goes_ Try.func18 (by kernel_rfl) rfl #[.slice (some ad187) y189.length co35, .slice A0_0 l0_0.length c0_0] (by rfl) rfl rfl (by (try simp only [List.map_toArray, List.map_cons, List.map_nil]); first | done | rfl | (simp only [List.length_drop, List.length_take]; rfl)) ?_
                                with_reducible refine (mortmainref02_Ints.calls kj3 _ _ y189 _ _ l0_0 true _ ?side1 ?side2 ?side3 ?side4 A27.out).mono ?_
                                (case side1 => repeat (first | exact (Kd.V_reads' HO193.out).2.2 | (with_reducible refine Kd.C_alloc ?_ _) | (with_reducible refine Kd.C_drewN ?_ _) | (with_reducible refine Kd.C_drew ?_)))
                                (case side2 => exact (Kd.V_reads' HO193.out).2.1)
                                (case side3 => repeat (first | exact (Kd.C_below HR0_0.out HB.out) | (with_reducible refine Kd.C_alloc ?_ _) | (with_reducible refine Kd.C_drewN ?_ _) | (with_reducible refine Kd.C_drew ?_)))
                                (case side4 => exact HC0_0.out)
                                rintro e w' ⟨rfl, ⟨nd, rfl⟩⟩
                                refine ⟨_, rfl, ?_⟩
                                have q50 : ((l0_0.length : Int) : Int) ≤ ((t181.length : Int) : Int) := of_decide_eq_true (by first | (with_reducible assumption) | assumption)
                                obtain ⟨i050, hi050, _, hsz50, _⟩ := info_parts info3
                                have hroom50 : t181.length ≤ co42 := (Kd.V_reads' HO183.out).2.1
                                have hC50 : Kd.F (Kd.int .i64) _ _ (some ad188) t181.length t181 := (Kd.V_at (base := w.heap.size) HO183.out).2.2
                                have hcut50 := cut_to (P := Try.prog) 22 3 .i64 Try.underlying22 hi050 (some ad188) t181.length co42 (l0_0.length : Int) (of_decide_eq_true (by first | (with_reducible assumption) | assumption)) q50 hroom50
                                have hr50 := Kd.F_take (m := ((l0_0.length : Int) : Int).toNat) hC50 (by omega)
                                have hy50 : y195.length = ((l0_0.length : Int) : Int).toNat := (by rw [Ny195.out, List.length_take]; omega)
                                rw [← Ny195.out] at hr50
                                rw [← hy50] at hcut50
                                have HO199 := Aside0.mk (show Kd.V (Kd.int .i64) 3 _ w.heap.size _ (.slice (some ad188) y195.length co42) y195 from Kd.V_mk (by omega) hr50)
                                have HC199 := Aside0.mk (show y195.length ≤ co42 from by omega)
                                clear hr50 hC50 hroom50 hi050 hsz50
                                have KY50 := Aside0.mk hy50
                                clear hy50
                                replace q50 := eq_true q50
                                refine hK.out _ _ ⟨(blk_cell BK180.out 0).trans rfl, (blk_cell BK180.out 1).trans rfl, (blk_cell BK186.out 0).trans rfl, (blk_cell BK186.out 1).trans rfl, (blk_cell BK172.out 0).trans rfl, (blk_cell BK172.out 1).trans rfl, hHeld.2.2.2.2.2.2.1, hHeld.2.2.2.2.2.2.2⟩ (fun hHeld => ?_)
                                clear hK K
                                refine norm_ (a' := ?_) ?_ ?_
                                rotate_left
                                · show Act.put _ (some 90) _ = _
                                  simp only [Act.put, List.setIfInBounds_toArray, List.set_cons_zero, List.set_cons_succ, i64_w, i32_w]
                                  rfl
                                refine pure_ (i := 44) (N := some 91) (v := ?_) (a' := ?_) #[true, true, true, true, true, true, true, true, true, true, true, true, true, true, true, true, true, true, true, true, true, true, true, true, true, true, true, true, true, true, true, true, true, true, true, true, true, true, true, true, true, true, true, true, true, false, false, false, false, false, false, false, false, false, false] rfl rfl (any_of HT_.out (by kernel_rfl)) (fun _ _ _ h => h) (Or.inl ⟨by rfl, ?_⟩) ?_ ?_
                                rotate_left
                                · intro w'
                                  go_simp
                                  with_reducible rfl
                                rotate_left
                                · simp only [Act.put, List.setIfInBounds_toArray, List.set_cons_zero, List.set_cons_succ, i64_w, i32_w]
                                  rfl
                                refine pure_ (i := 45) (N := some 92) (v := ?_) (a' := ?_) #[true, true, true, true, true, true, true, true, true, true, true, true, true, true, true, true, true, true, true, true, true, true, true, true, true, true, true, true, true, true, true, true, true, true, true, true, true, true, true, true, true, true, true, true, true, true, false, false, false, false, false, false, false, false, false] rfl rfl (any_of HT_.out (by kernel_rfl)) (fun _ _ _ h => h) (Or.inl ⟨by rfl, ?_⟩) ?_ ?_
                                rotate_left
                                · intro w'
                                  go_simp
                                  with_reducible rfl
                                rotate_left
                                · simp only [Act.put, List.setIfInBounds_toArray, List.set_cons_zero, List.set_cons_succ, i64_w, i32_w]
                                  rfl
                                refine pure_ (i := 46) (N := some 93) (v := ?_) (a' := ?_) #[true, true, true, true, true, true, true, true, true, true, true, true, true, true, true, true, true, true, true, true, true, true, true, true, true, true, true, true, true, true, true, true, true, true, true, true, true, true, true, true, true, true, true, true, true, true, true, false, false, false, false, false, false, false, false] rfl rfl (any_of HT_.out (by kernel_rfl)) (fun _ _ _ h => h) (Or.inl ⟨by rfl, ?_⟩) ?_ ?_
                                rotate_left
                                · intro w'
                                  go_simp
                                  with_reducible rfl
                                rotate_left
                                · simp only [Act.put, List.setIfInBounds_toArray, List.set_cons_zero, List.set_cons_succ, i64_w, i32_w]
                                  rfl
                                refine pure_ (i := 48) (N := some 95) (v := ?_) (a' := ?_) #[true, true, true, true, true, true, true, true, true, true, true, true, true, true, true, true, true, true, true, true, true, true, true, true, true, true, true, true, true, true, true, true, true, true, true, true, true, true, true, true, true, true, true, true, true, true, true, false, true, false, false, false, false, false, false] rfl rfl (any_of HT_.out (by kernel_rfl)) (fun _ _ _ h => h) (Or.inl ⟨by rfl, ?_⟩) ?_ ?_
                                rotate_left
                                · intro w'
                                  go_simp
                                  with_reducible rfl
                                rotate_left
                                · simp only [Act.put, List.setIfInBounds_toArray, List.set_cons_zero, List.set_cons_succ, i64_w, i32_w]
                                  rfl
                                refine pure_ (i := 50) (N := some 97) (v := ?_) (a' := ?_) #[true, true, true, true, true, true, true, true, true, true, true, true, true, true, true, true, true, true, true, true, true, true, true, true, true, true, true, true, true, true, true, true, true, true, true, true, true, true, true, true, true, true, true, true, true, true, true, false, true, false, true, false, false, false, false] rfl rfl (any_of HT_.out (by kernel_rfl)) (fun _ _ _ h => h) (Or.inl ⟨by rfl, ?_⟩) ?_ ?_
                                rotate_left
                                · intro w'
                                  go_simp
                                  with_reducible rfl
                                rotate_left
                                · simp only [Act.put, List.setIfInBounds_toArray, List.set_cons_zero, List.set_cons_succ, i64_w, i32_w]
                                  rfl
                                refine take_ (i := 47) (N := some 94) (v := ?_) (a' := ?_) #[true, true, true, true, true, true, true, true, true, true, true, true, true, true, true, true, true, true, true, true, true, true, true, true, true, true, true, true, true, true, true, true, true, true, true, true, true, true, true, true, true, true, true, true, true, true, true, true, true, false, true, false, false, false, false] rfl rfl (take_ofW HT_.out HW_.out (by kernel_rfl)) (fun _ _ _ h => h) (Or.inl ⟨by rfl, ?_⟩) hHeld ?_ ?_
                                rotate_left
                                · rintro w' ⟨s0, s1, s2, s3, s4, s5, s6, s7⟩
                                  try simp only [Int.toNat_natCast] at s0 s1 s2 s3 s4 s5 s6 s7
                                  go_simp
                                  with_reducible rfl
                                rotate_left
                                · simp only [Act.put, List.setIfInBounds_toArray, List.set_cons_zero, List.set_cons_succ, i64_w, i32_w]
                                  rfl
                                refine pure_ (i := 49) (N := some 96) (v := ?_) (a' := ?_) #[true, true, true, true, true, true, true, true, true, true, true, true, true, true, true, true, true, true, true, true, true, true, true, true, true, true, true, true, true, true, true, true, true, true, true, true, true, true, true, true, true, true, true, true, true, true, true, true, true, true, true, false, false, false, false] rfl rfl (any_of HT_.out (by kernel_rfl)) (fun _ _ _ h => h) (Or.inl ⟨by rfl, ?_⟩) ?_ ?_
                                rotate_left
                                · intro w'
                                  go_simp
                                  with_reducible rfl
                                rotate_left
                                · simp only [Act.put, List.setIfInBounds_toArray, List.set_cons_zero, List.set_cons_succ, i64_w, i32_w]
                                  rfl
                                refine take_ (i := 51) (N := some 98) (v := ?_) (a' := ?_) #[true, true, true, true, true, true, true, true, true, true, true, true, true, true, true, true, true, true, true, true, true, true, true, true, true, true, true, true, true, true, true, true, true, true, true, true, true, true, true, true, true, true, true, true, true, true, true, true, true, true, true, true, false, false, false] rfl rfl (take_ofW HT_.out HW_.out (by kernel_rfl)) (fun _ _ _ h => h) (Or.inl ⟨by rfl, ?_⟩) hHeld ?_ ?_
                                rotate_left
                                · rintro w' ⟨s0, s1, s2, s3, s4, s5, s6, s7⟩
                                  try simp only [Int.toNat_natCast] at s0 s1 s2 s3 s4 s5 s6 s7
                                  go_simp
                                  with_reducible rfl
                                rotate_left
                                · simp only [Act.put, List.setIfInBounds_toArray, List.set_cons_zero, List.set_cons_succ, i64_w, i32_w]
                                  rfl
                                refine one_ (i := 52) (N := some 99) #[true, true, true, true, true, true, true, true, true, true, true, true, true, true, true, true, true, true, true, true, true, true, true, true, true, true, true, true, true, true, true, true, true, true, true, true, true, true, true, true, true, true, true, true, true, true, true, true, true, true, true, true, true, false, false] rfl rfl (one_of HT_.out (by kernel_rfl)) (by decide) (fun K hK => ?_)
                                refine goes_ Try.func18 (by kernel_rfl) rfl #[.slice (some ad188) y195.length co42, .slice A0_0 l0_0.length c0_0] (by rfl) rfl rfl (by (try simp only [List.map_toArray, List.map_cons, List.map_nil]); first | done | rfl | (simp only [List.length_drop, List.length_take]; rfl)) ?_
                                with_reducible refine (mortmainref02_Ints.calls kj3 _ _ y195 _ _ l0_0 t200 _ ?side1 ?side2 ?side3 ?side4 A31.out).mono ?_
                                (case side1 => repeat (first | exact (Kd.V_reads' HO199.out).2.2 | (with_reducible refine Kd.C_alloc ?_ _) | (with_reducible refine Kd.C_drewN ?_ _) | (with_reducible refine Kd.C_drew ?_)))
                                (case side2 => exact (Kd.V_reads' HO199.out).2.1)
                                (case side3 => repeat (first | exact (Kd.C_below HR0_0.out (by repeat (first | (with_reducible first | exact HB.out | apply below_alloc | apply pw_below_drewN | apply below_drew1 | refine below_set ?_ GE172.out | refine below_set ?_ GE180.out | refine below_set ?_ GE186.out) | exact HB.out))) | (with_reducible refine Kd.C_alloc ?_ _) | (with_reducible refine Kd.C_drewN ?_ _) | (with_reducible refine Kd.C_drew ?_)))
                                (case side4 => exact HC0_0.out)
                                rintro e w' ⟨rfl, ⟨nd, rfl⟩⟩
                                refine ⟨_, rfl, ?_⟩
                                refine hK.out _ _ ⟨(blk_cell BK180.out 0).trans rfl, (blk_cell BK180.out 1).trans rfl, (blk_cell BK186.out 0).trans rfl, (blk_cell BK186.out 1).trans rfl, (blk_cell BK172.out 0).trans rfl, (blk_cell BK172.out 1).trans rfl, hHeld.2.2.2.2.2.2.1, hHeld.2.2.2.2.2.2.2⟩ (fun hHeld => ?_)
                                clear hK K
                                refine norm_ (a' := ?_) ?_ ?_
                                rotate_left
                                · show Act.put _ (some 99) _ = _
                                  simp only [Act.put, List.setIfInBounds_toArray, List.set_cons_zero, List.set_cons_succ, i64_w, i32_w]
                                  rfl
                                refine pure_ (i := 53) (N := some 100) (v := ?_) (a' := ?_) #[true, true, true, true, true, true, true, true, true, true, true, true, true, true, true, true, true, true, true, true, true, true, true, true, true, true, true, true, true, true, true, true, true, true, true, true, true, true, true, true, true, true, true, true, true, true, true, true, true, true, true, true, true, true, false] rfl rfl (any_of HT_.out (by kernel_rfl)) (fun _ _ _ h => h) (Or.inl ⟨by rfl, ?_⟩) ?_ ?_
                                rotate_left
                                · intro w'
                                  go_simp
                                  with_reducible rfl
                                rotate_left
                                · simp only [Act.put, List.setIfInBounds_toArray, List.set_cons_zero, List.set_cons_succ, i64_w, i32_w]
                                  rfl
                                refine pure_ (i := 54) (N := some 6) (v := ?_) (a' := ?_) #[true, true, true, true, true, true, true, true, true, true, true, true, true, true, true, true, true, true, true, true, true, true, true, true, true, true, true, true, true, true, true, true, true, true, true, true, true, true, true, true, true, true, true, true, true, true, true, true, true, true, true, true, true, true, true] rfl rfl (any_of HT_.out (by kernel_rfl)) (fun _ _ _ h => h) (Or.inl ⟨by rfl, ?_⟩) ?_ ?_
                                rotate_left
                                · intro w'
                                  go_simp
                                  with_reducible rfl
                                rotate_left
                                · simp only [Act.put, List.setIfInBounds_toArray, List.set_cons_zero, List.set_cons_succ, i64_w, i32_w]
                                  rfl
                                refine done_ (done_of HT_.out (by kernel_rfl)) ?_
                                try go_wp2
                                go_ret
                                exact ⟨by first | rfl | (simp [errW_none, errW_some] <;> rfl) | (simp [*, errW_none, errW_some] <;> rfl), by repeat (first | (with_reducible first | exact HB.out | apply below_alloc | apply pw_below_drewN | apply below_drew1 | refine below_set ?_ GE172.out | refine below_set ?_ GE180.out | refine below_set ?_ GE186.out) | exact HB.out)⟩
                              · rw [if_neg c30] at H
                                exact absurd H (by simp)
                            · replace c28 := Bool.eq_false_iff.mpr c28
                              subst c28
                              have H1 : (none) = some r := by rw [if_neg (show ¬ (false = true) by decide)] at H; exact H
                              clear H
                              have H := H1
                              clear H1
                              exact absurd H (by simp)
                          · rw [if_neg c26] at H
                            exact absurd H (by simp)
                        · rw [if_neg c24] at H
                          have c24b0 : ((rd t181 (l0_0.length : Int)) == a2) = false := beq_eq_false_iff_ne.mpr c24
                          have c24b1 : ((rd t181 (l0_0.length : Int)) != a2) = true := bne_iff_ne.mpr c24
                          exact absurd H (by simp)
                      · rw [if_neg c23] at H
                        exact absurd H (by simp)
                    · rw [if_neg c22] at H
                      have c22b0 : ((rd t175 (l0_0.length : Int)) == a1) = false := beq_eq_false_iff_ne.mpr c22
                      have c22b1 : ((rd t175 (l0_0.length : Int)) != a1) = true := bne_iff_ne.mpr c22
                      exact absurd H (by simp)
                  · rw [if_neg c21] at H
                    exact absurd H (by simp)
                · rw [if_neg c20] at H
                  exact absurd H (by simp)
              · rw [if_neg c19] at H
                have c19b0 : ((t181.length : Int) == (wrap64 ((l0_0.length : Int) + 1))) = false := beq_eq_false_iff_ne.mpr c19
                have c19b1 : ((t181.length : Int) != (wrap64 ((l0_0.length : Int) + 1))) = true := bne_iff_ne.mpr c19
                exact absurd H (by simp)
            · rw [if_neg c18] at H
              have c18b0 : ((t175.length : Int) == (wrap64 ((l0_0.length : Int) + 1))) = false := beq_eq_false_iff_ne.mpr c18
              have c18b1 : ((t175.length : Int) != (wrap64 ((l0_0.length : Int) + 1))) = true := bne_iff_ne.mpr c18
              exact absurd H (by simp)
          · rw [if_neg c17] at H
            have c17b0 : (t185 == 0) = false := beq_eq_false_iff_ne.mpr c17
            have c17b1 : (t185 != 0) = true := bne_iff_ne.mpr c17
            exact absurd H (by simp)
        · rw [if_neg c16] at H
          have c16b0 : (t179 == 0) = false := beq_eq_false_iff_ne.mpr c16
          have c16b1 : (t179 != 0) = true := bne_iff_ne.mpr c16
          by_cases c51 : t185 = t179
          · rw [if_pos c51] at H
            have c51b0 : (t185 == t179) = true := beq_iff_eq.mpr c51
            have c51b1 : (t185 != t179) = false := bne_eq_false_iff_eq.mpr c51
            clear c51
            replace H := Option.bind_eq_some_iff.mp H
            obtain ⟨t201, A520, H⟩ := H
            replace H : (some (t201 == (l0_0.length : Int))) = some r := H
            have A52 := Aside0.mk A520
            clear A520
            obtain rfl := Option.some.inj H
            have hcz53_0 : wc.cell? ⟨gb172, 0, none⟩ = some (.slice A0_0 l0_0.length c0_0) := (blk_cell BK172.out 0).trans rfl
            have hcz53_1 : wc.cell? ⟨gb172, 1, none⟩ = some (.int .i64 a0_1) := (blk_cell BK172.out 1).trans rfl
            have hfz53_0 := blk_frozen BK172.out 0
            have hfz53_1 := blk_frozen BK172.out 1
            go_wp2_with (first | ((with_reducible refine gate_callee (f := 10) rfl ?_); refine goesL_ (some 24) rfl rfl Try.func10 (by kernel_rfl) rfl #[.agg #[.slice A0_0 l0_0.length c0_0, .int .i64 a0_1], .int .i64 a1] rfl (by (try simp only [List.map_toArray, List.map_cons, List.map_nil]); first | done | rfl | (simp only [List.length_drop, List.length_take]; rfl)) ?_; (with_reducible refine (queue_Push_int.calls (fun k_ => k_ < w.heap.size) _ _ l0_0 a0_1 a1 t175 t178 t179 _ ?side1 A14.out).mono ?_); (case side1 => exact Kd.V_mk HC0_0.out (Kd.F_below (Kd.C_F (Kd.heap_int .i64) HR0_0.out) (by repeat (first | (with_reducible first | exact HB.out | apply below_alloc | apply pw_below_drewN | apply below_drew1 | refine below_set ?_ GE172.out) | exact HB.out)))); rintro e w54 ⟨v176, rfl, ho0, hb⟩; refine ⟨_, rfl, ?_⟩; have n0_ := Aside0.mk (Kd.V_lower (Kd.V_mono (ok' := fun k_ => k_ ≠ gb172) ho0 (fun k_ hk_ => Or.elim hk_ (fun hs_ => fun e_ => Nat.not_le.2 hs_ (by rw [e_]; exact GW172.out)) (fun hn_ => (Kd.freshB (g := gb172) (o := .cells #[.slice A0_0 l0_0.length c0_0, .int .i64 a0_1] 24 (0, 0)) (by (with_reducible repeat (first | refine blk_drewN ?_ _ | refine blk_drew ?_ | refine blk_alloc ?_ _)); exact BK172.out) k_ hn_)))) (below_size (by repeat (first | (with_reducible first | exact HB.out | apply below_alloc | apply pw_below_drewN | apply below_drew1 | refine below_set ?_ GE172.out) | exact HB.out)))); have n1_ := Aside0.mk (blk_below (g := gb172) (o := .cells #[.slice A0_0 l0_0.length c0_0, .int .i64 a0_1] 24 (0, 0)) (by (with_reducible repeat (first | refine blk_drewN ?_ _ | refine blk_drew ?_ | refine blk_alloc ?_ _)); exact BK172.out) hb); have n2_ := Aside0.mk (below_step (by repeat (first | (with_reducible first | exact HB.out | apply below_alloc | apply pw_below_drewN | apply below_drew1 | refine below_set ?_ GE172.out) | exact HB.out)) hb); clear BK172; clear HB; have HO177 := n0_; have BK172 := n1_; have HB := n2_; clear n0_ n1_ n2_; (try clear hb); (try clear hb2); (try clear hk); (try clear hi); (try clear ho0)) | ((with_reducible refine gate_dst (N := 7) rfl ?_); (try (refine gate_guard (by rfl) ?_; dsimp only)); refine box_event ?hg (N := 7) ?hd (cs := #[.slice none 0 0, .int .i64 0]) (t := 24) ?hr ?_; (case hd => rfl); (case hg => rfl); (case hr => first | (go_simp; done) | (go_simp; rfl)); intro gb180 hg w55 hbox hb; have n0_ := Aside0.mk (Kd.V_below (Kd.V_elderB (by (with_reducible repeat (first | apply Kd.V_alloc | apply Kd.V_drewN | apply Kd.V_drew)); exact HO177.out) gb180 (Nat.le_of_eq hg.symm)) hb); have n1_ := Aside0.mk (blk_below (g := gb172) (o := .cells #[.slice A0_0 l0_0.length c0_0, .int .i64 a0_1] 24 (0, 0)) (by (with_reducible repeat (first | refine blk_drewN ?_ _ | refine blk_drew ?_ | refine blk_alloc ?_ _)); exact BK172.out) hb); have n2_ := Aside0.mk (below_step (by repeat (first | (with_reducible first | exact HB.out | apply below_alloc | apply pw_below_drewN | apply below_drew1 | refine below_set ?_ GE172.out) | exact HB.out)) hb); have n3_ := Aside0.mk (hbox); have n4_ := Aside0.mk ((by rw [hg]; exact (below_size (by repeat (first | (with_reducible first | exact HB.out | apply below_alloc | apply pw_below_drewN | apply below_drew1 | refine below_set ?_ GE172.out) | exact HB.out))) : w.heap.size ≤ gb180)); have n5_ := Aside0.mk ((by rw [hg]; exact (below_size (by repeat (first | (with_reducible first | exact HB.out | apply below_alloc | apply pw_below_drewN | apply below_drew1 | refine below_set ?_ GE172.out) | exact HB.out))) : w.heap.size ≤ gb180)); have n6_ := Aside0.mk ((by rw [hg]; exact Nat.ne_of_lt (blk_lt (g := gb172) (o := .cells #[.slice A0_0 l0_0.length c0_0, .int .i64 a0_1] 24 (0, 0)) (by (with_reducible repeat (first | refine blk_drewN ?_ _ | refine blk_drew ?_ | refine blk_alloc ?_ _)); exact BK172.out)) : gb172 ≠ gb180)); have n7_ := Aside0.mk ((by rw [hg]; exact Nat.ne_of_gt (blk_lt (g := gb172) (o := .cells #[.slice A0_0 l0_0.length c0_0, .int .i64 a0_1] 24 (0, 0)) (by (with_reducible repeat (first | refine blk_drewN ?_ _ | refine blk_drew ?_ | refine blk_alloc ?_ _)); exact BK172.out)) : gb180 ≠ gb172)); clear HO177; clear BK172; clear HB; have HO177 := n0_; have BK172 := n1_; have HB := n2_; have BK180 := n3_; have GW180 := n4_; have GE180 := n5_; have NB172_180 := n6_; have NB180_172 := n7_; clear n0_ n1_ n2_ n3_ n4_ n5_ n6_ n7_; clear hb hbox hg; obtain ⟨Ao56, co56, eo56⟩ := Kd.V_slice HO177.out; subst eo56; have hnb57 := NB180_172.out; have hnc57 := NB172_180.out; have hcz58_0 : w55.cell? ⟨gb180, 0, none⟩ = some (.slice none 0 0) := (blk_cell BK180.out 0).trans rfl; have hcz58_1 : w55.cell? ⟨gb180, 1, none⟩ = some (.int .i64 0) := (blk_cell BK180.out 1).trans rfl; have hfz58_0 := blk_frozen BK180.out 0; have hfz58_1 := blk_frozen BK180.out 1) | ((with_reducible refine gate_store (t := 24) (p := 7) rfl ?_); refine store_event (t := 24) (p := 7) (v := ?vo_w59) (w1 := ((w55.setCell ⟨gb180, 0, none⟩ (.slice Ao56 t175.length co56)).setCell ⟨gb180, 1, none⟩ (.int .i64 t178))) ?hg ?ho ?hn ?hr ?_; (case ho => rfl); (case hg => rfl); (case hn => rfl); (case hr => first | (go_simp; done) | (go_simp; rfl)); intro w59 hw; have n0_ : Aside0 (Kd.V (Kd.int .i64) 3 w59 w.heap.size (fun k_ => k_ ≠ gb172 ∧ k_ ≠ gb180) (.slice Ao56 t175.length co56) t175) := ⟨(by rw [hw]; exact (by (with_reducible repeat (first | apply Kd.V_alloc | apply Kd.V_drewN | apply Kd.V_drew)); exact Kd.V_mono (Kd.V_far (p := ⟨gb180, 1, none⟩) (Kd.V_far (p := ⟨gb180, 0, none⟩) (Kd.V_mono HO177.out (fun k_ hk => (⟨hk, hk.2⟩ : _ ∧ k_ ≠ gb180))) (fun _ hk => hk.2) (.slice Ao56 t175.length co56)) (fun _ hk => hk.2) (.int .i64 t178)) (fun _ hk => ⟨hk.1.1, hk.1.2⟩)))⟩; have n1_ : Aside0 (w59.heap[gb172]? = some (.cells #[.slice A0_0 l0_0.length c0_0, .int .i64 a0_1] 24 (0, 0))) := ⟨(by rw [hw]; exact (by (with_reducible repeat (first | refine blk_drewN ?_ _ | refine blk_drew ?_ | refine blk_alloc ?_ _)); refine blk_far ?_ NB172_180.out _; (with_reducible repeat (first | refine blk_drewN ?_ _ | refine blk_drew ?_ | refine blk_alloc ?_ _)); refine blk_far ?_ NB172_180.out _; (with_reducible repeat (first | refine blk_drewN ?_ _ | refine blk_drew ?_ | refine blk_alloc ?_ _)); exact BK172.out))⟩; have n2_ : Aside0 (w59.heap[gb180]? = some (.cells #[.slice Ao56 t175.length co56, .int .i64 t178] 24 (0, 0))) := ⟨(by rw [hw]; exact (by (with_reducible repeat (first | refine blk_drewN ?_ _ | refine blk_drew ?_ | refine blk_alloc ?_ _)); refine blk_put (cs := #[.slice Ao56 t175.length co56, .int .i64 0]) ?_ 1 _ rfl; (with_reducible repeat (first | refine blk_drewN ?_ _ | refine blk_drew ?_ | refine blk_alloc ?_ _)); refine blk_put (cs := #[.slice none 0 0, .int .i64 0]) ?_ 0 _ rfl; (with_reducible repeat (first | refine blk_drewN ?_ _ | refine blk_drew ?_ | refine blk_alloc ?_ _)); exact BK180.out))⟩; have n3_ : Aside0 (Below w.heap.size w w59) := ⟨(by rw [hw]; exact (by repeat (first | (with_reducible first | exact HB.out | apply below_alloc | apply pw_below_drewN | apply below_drew1 | refine below_set ?_ GE172.out | refine below_set ?_ GE180.out) | exact HB.out)))⟩; clear hw; clear HO177; clear BK172; clear BK180; clear HB; have HO177 := n0_; have BK172 := n1_; have BK180 := n2_; have HB := n3_; clear n0_ n1_ n2_ n3_; have hcz60_0 : w59.cell? ⟨gb172, 0, none⟩ = some (.slice A0_0 l0_0.length c0_0) := (blk_cell BK172.out 0).trans rfl; have hcz60_1 : w59.cell? ⟨gb172, 1, none⟩ = some (.int .i64 a0_1) := (blk_cell BK172.out 1).trans rfl; have hfz60_0 := blk_frozen BK172.out 0; have hfz60_1 := blk_frozen BK172.out 1) | ((with_reducible refine gate_callee (f := 10) rfl ?_); refine goesL_ (some 30) rfl rfl Try.func10 (by kernel_rfl) rfl #[.agg #[.slice A0_0 l0_0.length c0_0, .int .i64 a0_1], .int .i64 a2] rfl (by (try simp only [List.map_toArray, List.map_cons, List.map_nil]); first | done | rfl | (simp only [List.length_drop, List.length_take]; rfl)) ?_; (with_reducible refine (queue_Push_int.calls (fun k_ => k_ < w.heap.size) _ _ l0_0 a0_1 a2 t181 t184 t185 _ ?side1 A15.out).mono ?_); (case side1 => exact Kd.V_mk HC0_0.out (Kd.F_below (Kd.C_F (Kd.heap_int .i64) HR0_0.out) (by repeat (first | (with_reducible first | exact HB.out | apply below_alloc | apply pw_below_drewN | apply below_drew1 | refine below_set ?_ GE172.out | refine below_set ?_ GE180.out) | exact HB.out)))); rintro e w61 ⟨v182, rfl, ho0, hb⟩; refine ⟨_, rfl, ?_⟩; have n0_ := Aside0.mk (Kd.V_below (by (with_reducible repeat (first | apply Kd.V_alloc | apply Kd.V_drewN | apply Kd.V_drew)); exact HO177.out) hb); have n1_ := Aside0.mk (Kd.V_lower (Kd.V_mono (ok' := fun k_ => k_ ≠ gb172 ∧ k_ ≠ gb180) ho0 (fun k_ hk_ => ⟨Or.elim hk_ (fun hs_ => fun e_ => Nat.not_le.2 hs_ (by rw [e_]; exact GW172.out)) (fun hn_ => (Kd.freshB (g := gb172) (o := .cells #[.slice A0_0 l0_0.length c0_0, .int .i64 a0_1] 24 (0, 0)) (by (with_reducible repeat (first | refine blk_drewN ?_ _ | refine blk_drew ?_ | refine blk_alloc ?_ _)); exact BK172.out) k_ hn_)), Or.elim hk_ (fun hs_ => fun e_ => Nat.not_le.2 hs_ (by rw [e_]; exact GW180.out)) (fun hn_ => (Kd.freshB (g := gb180) (o := .cells #[.slice Ao56 t175.length co56, .int .i64 t178] 24 (0, 0)) (by (with_reducible repeat (first | refine blk_drewN ?_ _ | refine blk_drew ?_ | refine blk_alloc ?_ _)); exact BK180.out) k_ hn_))⟩)) (below_size (by repeat (first | (with_reducible first | exact HB.out | apply below_alloc | apply pw_below_drewN | apply below_drew1 | refine below_set ?_ GE172.out | refine below_set ?_ GE180.out) | exact HB.out)))); have n2_ := Aside0.mk (blk_below (g := gb172) (o := .cells #[.slice A0_0 l0_0.length c0_0, .int .i64 a0_1] 24 (0, 0)) (by (with_reducible repeat (first | refine blk_drewN ?_ _ | refine blk_drew ?_ | refine blk_alloc ?_ _)); exact BK172.out) hb); have n3_ := Aside0.mk (blk_below (g := gb180) (o := .cells #[.slice Ao56 t175.length co56, .int .i64 t178] 24 (0, 0)) (by (with_reducible repeat (first | refine blk_drewN ?_ _ | refine blk_drew ?_ | refine blk_alloc ?_ _)); exact BK180.out) hb); have n4_ := Aside0.mk (below_step (by repeat (first | (with_reducible first | exact HB.out | apply below_alloc | apply pw_below_drewN | apply below_drew1 | refine below_set ?_ GE172.out | refine below_set ?_ GE180.out) | exact HB.out)) hb); clear HO177; clear BK172; clear BK180; clear HB; have HO177 := n0_; have HO183 := n1_; have BK172 := n2_; have BK180 := n3_; have HB := n4_; clear n0_ n1_ n2_ n3_ n4_; (try clear hb); (try clear hb2); (try clear hk); (try clear hi); (try clear ho0)) | ((with_reducible refine gate_dst (N := 9) rfl ?_); (try (refine gate_guard (by rfl) ?_; dsimp only)); refine box_event ?hg (N := 9) ?hd (cs := #[.slice none 0 0, .int .i64 0]) (t := 24) ?hr ?_; (case hd => rfl); (case hg => rfl); (case hr => first | (go_simp; done) | (go_simp; rfl)); intro gb186 hg w62 hbox hb; have n0_ := Aside0.mk (Kd.V_below (Kd.V_elderB (by (with_reducible repeat (first | apply Kd.V_alloc | apply Kd.V_drewN | apply Kd.V_drew)); exact HO177.out) gb186 (Nat.le_of_eq hg.symm)) hb); have n1_ := Aside0.mk (Kd.V_below (Kd.V_elderB (by (with_reducible repeat (first | apply Kd.V_alloc | apply Kd.V_drewN | apply Kd.V_drew)); exact HO183.out) gb186 (Nat.le_of_eq hg.symm)) hb); have n2_ := Aside0.mk (blk_below (g := gb172) (o := .cells #[.slice A0_0 l0_0.length c0_0, .int .i64 a0_1] 24 (0, 0)) (by (with_reducible repeat (first | refine blk_drewN ?_ _ | refine blk_drew ?_ | refine blk_alloc ?_ _)); exact BK172.out) hb); have n3_ := Aside0.mk (blk_below (g := gb180) (o := .cells #[.slice Ao56 t175.length co56, .int .i64 t178] 24 (0, 0)) (by (with_reducible repeat (first | refine blk_drewN ?_ _ | refine blk_drew ?_ | refine blk_alloc ?_ _)); exact BK180.out) hb); have n4_ := Aside0.mk (below_step (by repeat (first | (with_reducible first | exact HB.out | apply below_alloc | apply pw_below_drewN | apply below_drew1 | refine below_set ?_ GE172.out | refine below_set ?_ GE180.out) | exact HB.out)) hb); have n5_ := Aside0.mk (hbox); have n6_ := Aside0.mk ((by rw [hg]; exact (below_size (by repeat (first | (with_reducible first | exact HB.out | apply below_alloc | apply pw_below_drewN | apply below_drew1 | refine below_set ?_ GE172.out | refine below_set ?_ GE180.out) | exact HB.out))) : w.heap.size ≤ gb186)); have n7_ := Aside0.mk ((by rw [hg]; exact (below_size (by repeat (first | (with_reducible first | exact HB.out | apply below_alloc | apply pw_below_drewN | apply below_drew1 | refine below_set ?_ GE172.out | refine below_set ?_ GE180.out) | exact HB.out))) : w.heap.size ≤ gb186)); have n8_ := Aside0.mk ((by rw [hg]; exact Nat.ne_of_lt (blk_lt (g := gb172) (o := .cells #[.slice A0_0 l0_0.length c0_0, .int .i64 a0_1] 24 (0, 0)) (by (with_reducible repeat (first | refine blk_drewN ?_ _ | refine blk_drew ?_ | refine blk_alloc ?_ _)); exact BK172.out)) : gb172 ≠ gb186)); have n9_ := Aside0.mk ((by rw [hg]; exact Nat.ne_of_gt (blk_lt (g := gb172) (o := .cells #[.slice A0_0 l0_0.length c0_0, .int .i64 a0_1] 24 (0, 0)) (by (with_reducible repeat (first | refine blk_drewN ?_ _ | refine blk_drew ?_ | refine blk_alloc ?_ _)); exact BK172.out)) : gb186 ≠ gb172)); have n10_ := Aside0.mk ((by rw [hg]; exact Nat.ne_of_lt (blk_lt (g := gb180) (o := .cells #[.slice Ao56 t175.length co56, .int .i64 t178] 24 (0, 0)) (by (with_reducible repeat (first | refine blk_drewN ?_ _ | refine blk_drew ?_ | refine blk_alloc ?_ _)); exact BK180.out)) : gb180 ≠ gb186)); have n11_ := Aside0.mk ((by rw [hg]; exact Nat.ne_of_gt (blk_lt (g := gb180) (o := .cells #[.slice Ao56 t175.length co56, .int .i64 t178] 24 (0, 0)) (by (with_reducible repeat (first | refine blk_drewN ?_ _ | refine blk_drew ?_ | refine blk_alloc ?_ _)); exact BK180.out)) : gb186 ≠ gb180)); clear HO177; clear HO183; clear BK172; clear BK180; clear HB; have HO177 := n0_; have HO183 := n1_; have BK172 := n2_; have BK180 := n3_; have HB := n4_; have BK186 := n5_; have GW186 := n6_; have GE186 := n7_; have NB172_186 := n8_; have NB186_172 := n9_; have NB180_186 := n10_; have NB186_180 := n11_; clear n0_ n1_ n2_ n3_ n4_ n5_ n6_ n7_ n8_ n9_ n10_ n11_; clear hb hbox hg; obtain ⟨Ao63, co63, eo63⟩ := Kd.V_slice HO183.out; subst eo63; have hnb64 := NB186_172.out; have hnc64 := NB172_186.out; have hnb65 := NB186_180.out; have hnc65 := NB180_186.out; have hcz66_0 : w62.cell? ⟨gb186, 0, none⟩ = some (.slice none 0 0) := (blk_cell BK186.out 0).trans rfl; have hcz66_1 : w62.cell? ⟨gb186, 1, none⟩ = some (.int .i64 0) := (blk_cell BK186.out 1).trans rfl; have hfz66_0 := blk_frozen BK186.out 0; have hfz66_1 := blk_frozen BK186.out 1; have hcz67_0 : w62.cell? ⟨gb172, 0, none⟩ = some (.slice A0_0 l0_0.length c0_0) := (blk_cell BK172.out 0).trans rfl; have hcz67_1 : w62.cell? ⟨gb172, 1, none⟩ = some (.int .i64 a0_1) := (blk_cell BK172.out 1).trans rfl; have hfz67_0 := blk_frozen BK172.out 0; have hfz67_1 := blk_frozen BK172.out 1; have hcz68_0 : w62.cell? ⟨gb180, 0, none⟩ = some (.slice Ao56 t175.length co56) := (blk_cell BK180.out 0).trans rfl; have hcz68_1 : w62.cell? ⟨gb180, 1, none⟩ = some (.int .i64 t178) := (blk_cell BK180.out 1).trans rfl; have hfz68_0 := blk_frozen BK180.out 0; have hfz68_1 := blk_frozen BK180.out 1) | (go_at_call 19; (with_reducible refine (queue_Len_int.calls _ _ t175 t178 t201 _ ?side1 ?side2 A52.out).mono ?_); (case side1 => refine (Kd.V_reads' (e := 3) (base := w.heap.size) (ok := fun k_ => ((k_ ≠ gb172 ∧ k_ ≠ gb180) ∧ k_ ≠ gb186)) (n := t175.length) (c := co56) ?_).2.2; exact (by (with_reducible repeat (first | apply Kd.V_alloc | apply Kd.V_drewN | apply Kd.V_drew)); exact (Kd.V_mono (Kd.V_far (p := ⟨gb186, 1, none⟩) (Kd.V_far (p := ⟨gb186, 0, none⟩) (Kd.V_mono HO177.out (fun k_ hk => (⟨hk, hk.2⟩ : _ ∧ k_ ≠ gb186))) (fun _ hk => hk.2) (.slice Ao63 t181.length co63)) (fun _ hk => hk.2) (.int .i64 t184)) (fun _ h_ => h_.1)))); (case side2 => exact (Kd.V_reads' HO177.out).2.1); rintro e w69 ⟨rfl, hb⟩; have n0_ := Aside0.mk (Kd.V_below (by (with_reducible repeat (first | apply Kd.V_alloc | apply Kd.V_drewN | apply Kd.V_drew)); exact (Kd.V_mono (Kd.V_far (p := ⟨gb186, 1, none⟩) (Kd.V_far (p := ⟨gb186, 0, none⟩) (Kd.V_mono HO177.out (fun k_ hk => (⟨hk, hk.2⟩ : _ ∧ k_ ≠ gb186))) (fun _ hk => hk.2) (.slice Ao63 t181.length co63)) (fun _ hk => hk.2) (.int .i64 t184)) (fun _ h_ => h_.1))) hb); have n1_ := Aside0.mk (Kd.V_below (by (with_reducible repeat (first | apply Kd.V_alloc | apply Kd.V_drewN | apply Kd.V_drew)); exact (Kd.V_mono (Kd.V_far (p := ⟨gb186, 1, none⟩) (Kd.V_far (p := ⟨gb186, 0, none⟩) (Kd.V_mono HO183.out (fun k_ hk => (⟨hk, hk.2⟩ : _ ∧ k_ ≠ gb186))) (fun _ hk => hk.2) (.slice Ao63 t181.length co63)) (fun _ hk => hk.2) (.int .i64 t184)) (fun _ h_ => h_.1))) hb); have n2_ := Aside0.mk (blk_below (g := gb172) (o := .cells #[.slice A0_0 l0_0.length c0_0, .int .i64 a0_1] 24 (0, 0)) (by (with_reducible repeat (first | refine blk_drewN ?_ _ | refine blk_drew ?_ | refine blk_alloc ?_ _)); refine blk_far ?_ NB172_186.out _; (with_reducible repeat (first | refine blk_drewN ?_ _ | refine blk_drew ?_ | refine blk_alloc ?_ _)); refine blk_far ?_ NB172_186.out _; (with_reducible repeat (first | refine blk_drewN ?_ _ | refine blk_drew ?_ | refine blk_alloc ?_ _)); exact BK172.out) hb); have n3_ := Aside0.mk (blk_below (g := gb180) (o := .cells #[.slice Ao56 t175.length co56, .int .i64 t178] 24 (0, 0)) (by (with_reducible repeat (first | refine blk_drewN ?_ _ | refine blk_drew ?_ | refine blk_alloc ?_ _)); refine blk_far ?_ NB180_186.out _; (with_reducible repeat (first | refine blk_drewN ?_ _ | refine blk_drew ?_ | refine blk_alloc ?_ _)); refine blk_far ?_ NB180_186.out _; (with_reducible repeat (first | refine blk_drewN ?_ _ | refine blk_drew ?_ | refine blk_alloc ?_ _)); exact BK180.out) hb); have n4_ := Aside0.mk (blk_below (g := gb186) (o := .cells #[.slice Ao63 t181.length co63, .int .i64 t184] 24 (0, 0)) (by (with_reducible repeat (first | refine blk_drewN ?_ _ | refine blk_drew ?_ | refine blk_alloc ?_ _)); refine blk_put (cs := #[.slice Ao63 t181.length co63, .int .i64 0]) ?_ 1 _ rfl; (with_reducible repeat (first | refine blk_drewN ?_ _ | refine blk_drew ?_ | refine blk_alloc ?_ _)); refine blk_put (cs := #[.slice none 0 0, .int .i64 0]) ?_ 0 _ rfl; (with_reducible repeat (first | refine blk_drewN ?_ _ | refine blk_drew ?_ | refine blk_alloc ?_ _)); exact BK186.out) hb); have n5_ := Aside0.mk (below_step (by repeat (first | (with_reducible first | exact HB.out | apply below_alloc | apply pw_below_drewN | apply below_drew1 | refine below_set ?_ GE172.out | refine below_set ?_ GE180.out | refine below_set ?_ GE186.out) | exact HB.out)) hb); clear HO177; clear HO183; clear BK172; clear BK180; clear BK186; clear HB; have HO177 := n0_; have HO183 := n1_; have BK172 := n2_; have BK180 := n3_; have BK186 := n4_; have HB := n5_; clear n0_ n1_ n2_ n3_ n4_ n5_; (try clear hb); (try clear hb2); (try clear hk); (try clear hi)))
            go_ret
            exact ⟨by first | rfl | (simp [errW_none, errW_some] <;> rfl) | (simp [*, errW_none, errW_some] <;> rfl), by repeat (first | (with_reducible first | exact HB.out | apply below_alloc | apply pw_below_drewN | apply below_drew1 | refine below_set ?_ GE172.out | refine below_set ?_ GE180.out | refine below_set ?_ GE186.out) | exact HB.out)⟩
          · rw [if_neg c51] at H
            exact absurd H (by simp)

end Go.Proofs.Ytoefbobjiepbeaa.MQueueOwn
