/- Which stores are right, by the program: what its function comes to. Conditions: those of each lemma. -/
import Derived.Test.YtkmjboeabmmecaaHndN
namespace Go.Proofs.Ytkmjboeabmmecaa.MAll
open Go.RowKit Go.Proofs.YtkmjboeabmmecaaW.PrintWords Go.Proofs.YtkmjboeabmmecaaW.PrintLast Go.Proofs.YtkmjboeabmmecaaW.PrintMore
attribute [local go_sem] max2_int min2_int max_two min_two max_three min_three max_four min_four
set_option linter.unusedVariables false
set_option linter.unusedSimpArgs false
attribute [local go_sem] Oper.semAt_some
open Go.Shelf Go.Proofs.Ytkmjboeabmmecaa
set_option maxRecDepth 100000 in
set_option maxHeartbeats 2000000 in
theorem rule1_c (W : World) (g : Nat) (made ser str wk pr : Int) (sd : Bool) (f : Value) (hg : W.cell? ⟨g, 0, none⟩ = some (.int .i64 made)) :
    Calls Try.prog 95 #[.agg #[.int .i64 ser, .int .i64 str, .int .i64 wk, .int .i64 pr, .bool sd, f], .pointer (some ⟨g, 0, none⟩)] W fun e w' => e = .returned (.bool (decide (1 ≤ ser) && decide (ser ≤ made))) ∧ Below W.heap.size W w' := by
  have hb := (Below.refl W.heap.size W).alloc (Nat.le_refl _) (.cells #[.int .i64 ser, .int .i64 str, .int .i64 wk, .int .i64 pr, .bool sd, f] 29)
  have h0 := (hb.cell (World.block_lt_of_cell? _ _ hg)).trans hg
  by_cases c : 1 ≤ ser
  · have c1 := decide_eq_true c
    rw [c1, Bool.true_and]
    go_enter Try.func95, Try.ntmps95
    go_wp2
    go_ret
    exact ⟨rfl, hb⟩
  · have c1 := decide_eq_false c
    rw [c1, Bool.false_and]
    go_enter Try.func95, Try.ntmps95
    go_wp2
    go_ret
    exact ⟨rfl, hb⟩
set_option maxRecDepth 100000 in
set_option maxHeartbeats 2000000 in
theorem rule2_c (W : World) (ser str wk pr : Int) (sd : Bool) (f : Value) :
    Calls Try.prog 96 #[.agg #[.int .i64 ser, .int .i64 str, .int .i64 wk, .int .i64 pr, .bool sd, f]] W fun e w' => e = .returned (.bool (decide (0 ≤ str) && decide (0 ≤ wk))) ∧ Below W.heap.size W w' := by
  have hb := (Below.refl W.heap.size W).alloc (Nat.le_refl _) (.cells #[.int .i64 ser, .int .i64 str, .int .i64 wk, .int .i64 pr, .bool sd, f] 29)
  by_cases c : 0 ≤ str
  · have c1 := decide_eq_true c
    rw [c1, Bool.true_and]
    go_enter Try.func96, Try.ntmps96
    go_wp2
    go_ret
    exact ⟨rfl, hb⟩
  · have c1 := decide_eq_false c
    rw [c1, Bool.false_and]
    go_enter Try.func96, Try.ntmps96
    go_wp2
    go_ret
    exact ⟨rfl, hb⟩
set_option maxRecDepth 100000 in
set_option maxHeartbeats 2000000 in
theorem rule3_c (W : World) (ser str wk pr : Int) (sd : Bool) (f : Value) :
    Calls Try.prog 97 #[.agg #[.int .i64 ser, .int .i64 str, .int .i64 wk, .int .i64 pr, .bool sd, f]] W fun e w' => e = .returned (.bool (decide (-1 ≤ pr) && decide (pr < 6))) ∧ Below W.heap.size W w' := by
  have hb := (Below.refl W.heap.size W).alloc (Nat.le_refl _) (.cells #[.int .i64 ser, .int .i64 str, .int .i64 wk, .int .i64 pr, .bool sd, f] 29)
  by_cases c : -1 ≤ pr
  · have c1 := decide_eq_true c
    rw [c1, Bool.true_and]
    go_enter Try.func97, Try.ntmps97
    go_wp2
    go_ret
    exact ⟨rfl, hb⟩
  · have c1 := decide_eq_false c
    rw [c1, Bool.false_and]
    go_enter Try.func97, Try.ntmps97
    go_wp2
    go_ret
    exact ⟨rfl, hb⟩
set_option maxRecDepth 100000 in
set_option maxHeartbeats 2000000 in
theorem rule4_c (W : World) (ser str wk pr : Int) (sd : Bool) (fa : Option Addr) (fn fc : Nat) :
    Calls Try.prog 98 #[.agg #[.int .i64 ser, .int .i64 str, .int .i64 wk, .int .i64 pr, .bool sd, .slice fa fn fc]] W fun e w' => e = .returned (.bool (decide ((fn : Int) ≤ 4))) ∧ Below W.heap.size W w' := by
  have hb := (Below.refl W.heap.size W).alloc (Nat.le_refl _) (.cells #[.int .i64 ser, .int .i64 str, .int .i64 wk, .int .i64 pr, .bool sd, .slice fa fn fc] 29)
  go_enter Try.func98, Try.ntmps98
  go_wp2
  go_ret
  exact ⟨rfl, hb⟩
set_option maxRecDepth 100000 in
set_option maxHeartbeats 2000000 in
theorem rules_c (W : World) (made : Int) :
    Calls Try.prog 64 #[.int .i64 made] W fun e w' => e = .returned (.slice (some ⟨W.heap.size + 1, 0, none⟩) 4 4) ∧ w' = (W.alloc (.cells #[.int .i64 made] 3)).alloc (.cells #[.func (.func 95) #[] #[.pointer (some ⟨W.heap.size, 0, none⟩)], .func (.func 96) #[] #[], .func (.func 97) #[] #[], .func (.func 98) #[] #[]] 94) := by
  go_enter Try.func64, Try.ntmps64
  go_wp2
  go_ret
  exact ⟨rfl, rfl⟩
def blkB (ser str wk pr : Int) (sd : Bool) (fn : Nat) : Bool := (ser == 0 && (str == 0 && (wk == 0 && (pr == 0)))) && !sd && decide ((fn : Int) = 0)
set_option maxRecDepth 100000 in
set_option maxHeartbeats 4000000 in
theorem blank_c (W : World) (ser str wk pr : Int) (sd : Bool) (fa : Option Addr) (fn fc : Nat) :
    Calls Try.prog 63 #[.agg #[.int .i64 ser, .int .i64 str, .int .i64 wk, .int .i64 pr, .bool sd, .slice fa fn fc]] W fun e w' => e = .returned (.bool (blkB ser str wk pr sd fn)) ∧ Below W.heap.size W w' := by
  have hb := (Below.refl W.heap.size W).alloc (Nat.le_refl _) (.cells #[.int .i64 ser, .int .i64 str, .int .i64 wk, .int .i64 pr, .bool sd, .slice fa fn fc] 29)
  have hq := Arr4.eqA122
  unfold blkB
  obtain ⟨b1, h1⟩ : ∃ b, (ser == 0 && (str == 0 && (wk == 0 && (pr == 0)))) = b := ⟨_, rfl⟩
  have H1 := Aside0.mk h1
  cases b1 with
  | false =>
    rw [h1]
    go_enter Try.func63, Try.ntmps63
    go_wp2
    go_ret
    exact ⟨rfl, hb⟩
  | true =>
    rw [h1]
    cases sd with
    | false =>
      go_enter Try.func63, Try.ntmps63
      go_wp2
      go_ret
      exact ⟨rfl, hb⟩
    | true =>
      go_enter Try.func63, Try.ntmps63
      go_wp2
      go_ret
      exact ⟨rfl, hb⟩
def z29o (o : S29) : Bool := blkB o.f0 o.f1 o.f2 o.f3 o.f4 o.f5.length
def rul27 (o : S29) (ser : Int) (j : Nat) : Bool := match j with
  | 0 => decide (1 ≤ o.f0) && decide (o.f0 ≤ ser)
  | 1 => decide (0 ≤ o.f1) && decide (0 ≤ o.f2)
  | 2 => decide (-1 ≤ o.f3) && decide (o.f3 < 6)
  | _ => decide ((o.f5.length : Int) ≤ 4)
def us27 (d : S82) : Bool := d.f0 == 1 || d.f0 == 2
def sn27 (ds : List S82) : Nat → List Int
  | 0 => []
  | i + 1 => if us27 (rd_T82 ds (i : Int)) = true then (rd_T82 ds (i : Int)).f2.f0 :: sn27 ds i else sn27 ds i
def ru27 (ds : List S82) (ser : Int) (i j : Nat) : Bool := rul27 (rd_T82 ds (i : Int)).f2 ser j && !(sn27 ds i).contains (rd_T82 ds (i : Int)).f2.f0
def st27 (ds : List S82) (ser : Int) (i : Nat) : Bool :=
  if (rd_T82 ds (i : Int)).f0 = 0 then z29o (rd_T82 ds (i : Int)).f2
  else if (rd_T82 ds (i : Int)).f0 = 3 then z29o (rd_T82 ds (i : Int)).f2
  else if us27 (rd_T82 ds (i : Int)) = true then (List.range 4).all (ru27 ds ser i)
  else false
def c27 (ds : List S82) (last ser : Int) (i : Nat) : Bool := !(decide ((rd_T82 ds (i : Int)).f1 < 0)) && !(decide (last < (rd_T82 ds (i : Int)).f1)) && st27 ds ser i
def srt (ds : List S82) (last ser : Int) : Bool := !(decide (24 < (ds.length : Int))) && !(decide (last < 0)) && !(decide (9 < last)) && !(decide (ser < 0)) && (List.range ds.length).all (c27 ds last ser)
theorem srt_no {ds : List S82} {last ser : Int} (i : Nat) (hi : i < ds.length) (h : c27 ds last ser i = false) : srt ds last ser = false := by
  have : (List.range ds.length).all (c27 ds last ser) = false := by rw [List.all_eq_false]; exact ⟨i, List.mem_range.mpr hi, by rw [h]; decide⟩
  unfold srt; rw [this, Bool.and_false]
theorem srt_yes {ds : List S82} {last ser : Int} (h0 : ¬ 24 < (ds.length : Int)) (h1 : ¬ last < 0) (h2 : ¬ 9 < last) (h3 : ¬ ser < 0) (h : ∀ i, i < ds.length → c27 ds last ser i = true) : srt ds last ser = true := by
  have : (List.range ds.length).all (c27 ds last ser) = true := by rw [List.all_eq_true]; exact fun i hi => h i (List.mem_range.mp hi)
  unfold srt; rw [this, decide_eq_false h0, decide_eq_false h1, decide_eq_false h2, decide_eq_false h3]; rfl
theorem c27_g0 {ds : List S82} {last ser : Int} {i : Nat} (h : (rd_T82 ds (i : Int)).f1 < 0) : c27 ds last ser i = false := by unfold c27; rw [decide_eq_true h]; rfl
theorem c27_g1 {ds : List S82} {last ser : Int} {i : Nat} (h : last < (rd_T82 ds (i : Int)).f1) : c27 ds last ser i = false := by unfold c27; rw [decide_eq_true h]; simp
theorem c27_st {ds : List S82} {last ser : Int} {i : Nat} (h0 : ¬ (rd_T82 ds (i : Int)).f1 < 0) (h1 : ¬ last < (rd_T82 ds (i : Int)).f1) : c27 ds last ser i = st27 ds ser i := by unfold c27; rw [decide_eq_false h0, decide_eq_false h1]; rfl
theorem st27_0 {ds : List S82} {ser : Int} {i : Nat} (h : (rd_T82 ds (i : Int)).f0 = 0 ∨ (rd_T82 ds (i : Int)).f0 = 3) : st27 ds ser i = z29o (rd_T82 ds (i : Int)).f2 := by
  unfold st27
  rcases h with h | h
  · rw [if_pos h]
  · rw [if_neg (by omega), if_pos h]
theorem us27_of {d : S82} (h : d.f0 = 1 ∨ d.f0 = 2) : us27 d = true := by unfold us27; rcases h with h | h <;> simp [h]
theorem us27_no {d : S82} (h1 : d.f0 ≠ 1) (h2 : d.f0 ≠ 2) : us27 d = false := by unfold us27; simp [h1, h2]
theorem st27_1 {ds : List S82} {ser : Int} {i : Nat} (h : (rd_T82 ds (i : Int)).f0 = 1 ∨ (rd_T82 ds (i : Int)).f0 = 2) : st27 ds ser i = (List.range 4).all (ru27 ds ser i) := by
  unfold st27
  rw [if_neg (by omega), if_neg (by omega), if_pos (us27_of h)]
theorem st27_no {ds : List S82} {ser : Int} {i : Nat} (h0 : (rd_T82 ds (i : Int)).f0 ≠ 0) (h3 : (rd_T82 ds (i : Int)).f0 ≠ 3) (h1 : (rd_T82 ds (i : Int)).f0 ≠ 1) (h2 : (rd_T82 ds (i : Int)).f0 ≠ 2) : st27 ds ser i = false := by
  unfold st27
  rw [if_neg h0, if_neg h3, us27_no h1 h2]; rfl
theorem ru27_no {ds : List S82} {ser : Int} {i : Nat} (j : Nat) (hj : j < 4) (h : ru27 ds ser i j = false) : (List.range 4).all (ru27 ds ser i) = false := by
  rw [List.all_eq_false]; exact ⟨j, List.mem_range.mpr hj, by rw [h]; decide⟩
theorem ru27_yes {ds : List S82} {ser : Int} {i : Nat} (h : ∀ j, j < 4 → ru27 ds ser i j = true) : (List.range 4).all (ru27 ds ser i) = true := by
  rw [List.all_eq_true]; exact fun j hj => h j (List.mem_range.mp hj)
theorem run_store_func {P : Program} {w : World} (a : Addr) (m : Mode) (fn : Fn) (x y : Array Value) : (store a (.func fn x y) m).run P w = stored P w a (.func fn x y) m := run_store P w a _ m rfl
attribute [local go_sem] run_store_func
set_option maxRecDepth 100000 in
set_option maxHeartbeats 8000000 in
theorem right27_c (W : World) (A : Option Addr) (c : Nat) (ds : List S82) (last ser : Int) (hC : Kd.C k82 W A ds.length ds) (hbig : ds.length ≤ 1000000) (hser : ser ≤ 9223372036854775807) :
    Calls Try.prog 27 #[.agg #[.slice A ds.length c, .int .i64 last, .int .i64 ser]] W fun e w' => e = .returned (.bool (srt ds last ser)) ∧ Below W.heap.size W w' := by
  obtain ⟨W0, hW0⟩ : ∃ W0, W.alloc (.cells #[.slice A ds.length c, .int .i64 last, .int .i64 ser] 26) = W0 := ⟨_, rfl⟩
  have HB0 := Aside0.mk (show Below W.heap.size W W0 by rw [← hW0]; exact (Below.refl W.heap.size W).alloc (Nat.le_refl _) _)
  have HZ := Aside0.mk (show W0.heap.size = W.heap.size + 1 by rw [← hW0]; simp)
  have B0 := Aside0.mk (show W0.heap[W.heap.size]? = some (.cells #[.slice A ds.length c, .int .i64 last, .int .i64 ser] 26 (0, 0)) by rw [← hW0]; exact blk_new W _)
  have HW := Aside0.mk hW0
  have HC := Aside0.mk (Kd.C_below hC HB0.out)
  have HBIG := Aside0.mk hbig
  have HSER := Aside0.mk hser
  have z0 := (blk_cell B0.out 0).trans rfl
  have z1 := (blk_cell B0.out 1).trans rfl
  have z2 := (blk_cell B0.out 2).trans rfl
  clear hC hbig hser hW0
  by_cases c0 : 24 < (ds.length : Int)
  · have c0b := decide_eq_true c0
    have hr : srt ds last ser = false := by unfold srt; rw [c0b]; rfl
    rw [hr]
    go_enter Try.func27, Try.ntmps27
    go_upto_region 1 with (fail)
    rw [HW.out]
    go_wp2
    go_ret
    exact ⟨rfl, HB0.out⟩
  have c0b := decide_eq_false c0
  by_cases c1 : last < 0
  · have c1b := decide_eq_true c1
    have hr : srt ds last ser = false := by unfold srt; rw [c1b]; simp
    rw [hr]
    go_enter Try.func27, Try.ntmps27
    go_upto_region 1 with (fail)
    rw [HW.out]
    go_wp2
    go_ret
    exact ⟨rfl, HB0.out⟩
  have c1b := decide_eq_false c1
  by_cases c2 : 9 < last
  · have c2b := decide_eq_true c2
    have hr : srt ds last ser = false := by unfold srt; rw [c2b]; simp
    rw [hr]
    go_enter Try.func27, Try.ntmps27
    go_upto_region 1 with (fail)
    rw [HW.out]
    go_wp2
    go_ret
    exact ⟨rfl, HB0.out⟩
  have c2b := decide_eq_false c2
  by_cases c3 : ser < 0
  · have c3b := decide_eq_true c3
    have hr : srt ds last ser = false := by unfold srt; rw [c3b]; simp
    rw [hr]
    go_enter Try.func27, Try.ntmps27
    go_upto_region 1 with (fail)
    rw [HW.out]
    go_wp2
    go_ret
    exact ⟨rfl, HB0.out⟩
  have c3b := decide_eq_false c3
  have C0 := Aside0.mk c0
  have C1 := Aside0.mk c1
  have C2 := Aside0.mk c2
  have C3 := Aside0.mk c3
  clear c0 c1 c2 c3
  have hmm := @run_makeMap Try.prog
  go_enter Try.func27, Try.ntmps27
  go_upto_region 1 with (fail)
  rw [HW.out]
  go_upto_region 4 with (fail)
  obtain ⟨W1, hW1⟩ : ∃ W1, W0.alloc (.map #[] 0) = W1 := ⟨_, rfl⟩
  have HB1 := Aside0.mk (show Below W0.heap.size W0 W1 by rw [← hW1]; exact (Below.refl _ _).alloc (Nat.le_refl _) _)
  have HS1 := Aside0.mk (show SetB W1 W0.heap.size 0 [] by rw [← hW1]; exact SetB.made W0)
  have y0 := (blk_cell (blk_below B0.out HB1.out) 0).trans rfl
  rw [hW1]
  clear hW1 z0 z1 z2 hmm c0b c1b c2b c3b
  go_wp2
  clear y0
  go_loopg [35] (ds.length + 1) (fun kq v35 w' => ∃ i : Nat, v35 = .int .i64 (i : Int) ∧ Aside0 (i ≤ ds.length ∧ kq + i = ds.length + 1) ∧ Aside0 (∀ j, j < i → c27 ds last ser j = true) ∧ Aside0 (Below W0.heap.size W0 w') ∧ Aside0 (SetB w' W0.heap.size i (sn27 ds i)))
  case atStart => exact ⟨0, by simp, ⟨by omega⟩, ⟨fun j hj => absurd hj (by omega)⟩, HB1, HS1⟩
  case round =>
    clear HB1 HS1
    obtain ⟨i, rfl, HI, HA, HB, HS⟩ := hrel
    cases gk with
    | zero => exact absurd HI.out (by omega)
    | succ k1 =>
      by_cases c5 : i < ds.length
      · have c5b := decide_eq_true (p := (i : Int) < (ds.length : Int)) (by omega)
        have hi0 : (0 : Int) ≤ (i : Int) := by omega
        have hi1 : (i : Int) < (ds.length : Int) := by omega
        obtain ⟨ad, A7, c7, e7, hx0, hx1, hx2, hx3, hx4, hx5, hx6, hx7, hl7, hi7⟩ := at_T82 HC.out (i : Int) hi0 hi1
        cases e7
        clear hl7 hi7
        rw [Int.toNat_natCast] at hx0 hx1 hx2 hx3 hx4 hx5 hx6 hx7
        replace hx0 := (HB.out.cell (World.block_lt_of_cell? W0 _ hx0)).trans hx0
        replace hx1 := (HB.out.cell (World.block_lt_of_cell? W0 _ hx1)).trans hx1
        replace hx2 := (HB.out.cell (World.block_lt_of_cell? W0 _ hx2)).trans hx2
        replace hx3 := (HB.out.cell (World.block_lt_of_cell? W0 _ hx3)).trans hx3
        replace hx4 := (HB.out.cell (World.block_lt_of_cell? W0 _ hx4)).trans hx4
        replace hx5 := (HB.out.cell (World.block_lt_of_cell? W0 _ hx5)).trans hx5
        replace hx6 := (HB.out.cell (World.block_lt_of_cell? W0 _ hx6)).trans hx6
        replace hx7 := (HB.out.cell (World.block_lt_of_cell? W0 _ hx7)).trans hx7
        replace hi0 := eq_true hi0
        replace hi1 := eq_true hi1
        have C5 := Aside0.mk c5
        clear c5
        go_upto_region 7 with (fail)
        generalize hX : wr.alloc (.cells #[.int .i64 (rd_T82 ds (i : Int)).f0, .int .i64 (rd_T82 ds (i : Int)).f1, .int .i64 (rd_T82 ds (i : Int)).f2.f0, .int .i64 (rd_T82 ds (i : Int)).f2.f1, .int .i64 (rd_T82 ds (i : Int)).f2.f2, .int .i64 (rd_T82 ds (i : Int)).f2.f3, .bool (rd_T82 ds (i : Int)).f2.f4, .slice A7 (rd_T82 ds (i : Int)).f2.f5.length c7] 82) = X
        have XB := Aside0.mk (show Below wr.heap.size wr X by rw [← hX]; exact (Below.refl _ _).alloc (Nat.le_refl _) _)
        have XN := Aside0.mk (show X.heap[wr.heap.size]? = some (.cells #[.int .i64 (rd_T82 ds (i : Int)).f0, .int .i64 (rd_T82 ds (i : Int)).f1, .int .i64 (rd_T82 ds (i : Int)).f2.f0, .int .i64 (rd_T82 ds (i : Int)).f2.f1, .int .i64 (rd_T82 ds (i : Int)).f2.f2, .int .i64 (rd_T82 ds (i : Int)).f2.f3, .bool (rd_T82 ds (i : Int)).f2.f4, .slice A7 (rd_T82 ds (i : Int)).f2.f5.length c7] 82 (0, 0)) by rw [← hX]; exact blk_new wr _)
        have XS := Aside0.mk (show X.heap.size = wr.heap.size + 1 by rw [← hX]; simp)
        clear hX hx0 hx1 hx2 hx3 hx4 hx5 hx6 hx7 c5b hi0 hi1
        have XW := Aside0.mk (HB.out.trans (XB.out.mono HB.out.size))
        have XX := Aside0.mk (HB0.out.trans (XW.out.mono HB0.out.size))
        have XT := Aside0.mk (HS.out.below XB.out)
        have x1 := (blk_cell XN.out 1).trans rfl
        have s1 := (blk_cell (blk_below B0.out XW.out) 1).trans rfl
        obtain ⟨d, hd⟩ : ∃ d, d = (rd_T82 ds (i : Int)) := ⟨_, rfl⟩
        have HDD := Aside0.mk hd
        rw [← hd] at x1 XN ⊢
        clear hd
        by_cases g0 : d.f1 < 0
        · have g0b := decide_eq_true g0
          have hr := srt_no (last := last) (ser := ser) i C5.out (c27_g0 (by rw [← HDD.out]; exact g0))
          go_wp2
          go_ret
          exact ⟨by first | rfl | (rw [hr]; rfl), XX.out⟩
        have g0b := decide_eq_false g0
        by_cases g1 : last < d.f1
        · have g1b := decide_eq_true g1
          have hr := srt_no (last := last) (ser := ser) i C5.out (c27_g1 (by rw [← HDD.out]; exact g1))
          go_wp2
          go_ret
          exact ⟨by first | rfl | (rw [hr]; rfl), XX.out⟩
        have g1b := decide_eq_false g1
        have HST := Aside0.mk (c27_st (ds := ds) (ser := ser) (i := i) (last := last) (by rw [← HDD.out]; exact g0) (by rw [← HDD.out]; exact g1))
        clear g0 g1
        go_upto_region 9 with (fail)
        clear x1 s1 g0b g1b
        have x0 := (blk_cell XN.out 0).trans rfl
        by_cases e0 : d.f0 = 0
        · have e0b : (d.f0 == 0) = true := beq_iff_eq.mpr e0
          have x2 := (blk_cell XN.out 2).trans rfl
          have x3 := (blk_cell XN.out 3).trans rfl
          have x4 := (blk_cell XN.out 4).trans rfl
          have x5 := (blk_cell XN.out 5).trans rfl
          have x6 := (blk_cell XN.out 6).trans rfl
          have x7 := (blk_cell XN.out 7).trans rfl
          have hs0 := st27_0 (ds := ds) (ser := ser) (i := i) (by rw [← HDD.out]; exact (.inl e0))
          rw [← HDD.out] at hs0
          have HS0 := Aside0.mk (HST.out.trans hs0)
          obtain ⟨bz, hbz⟩ : ∃ b, z29o d.f2 = b := ⟨_, rfl⟩
          have HBZ := Aside0.mk (show blkB d.f2.f0 d.f2.f1 d.f2.f2 d.f2.f3 d.f2.f4 d.f2.f5.length = bz from hbz)
          rw [hbz] at HS0
          have HUS := Aside0.mk (us27_no (d := d) (by omega) (by omega))
          clear hs0 hbz
          cases bz with
          | false =>
            have hr := srt_no (last := last) (ser := ser) i C5.out HS0.out
            go_wp2_with (go_at_call 63; refine (blank_c _ _ _ _ _ _ _ _ _).mono ?_; rintro e w1 ⟨rfl, hb⟩; rw [HBZ.out]; have HB9 := Aside0.mk (XX.out.trans (hb.mono XX.out.size)); clear hb)
            go_ret
            exact ⟨by first | rfl | (rw [hr]; rfl), HB9.out⟩
          | true =>
            go_wp2_with (go_at_call 63; refine (blank_c _ _ _ _ _ _ _ _ _).mono ?_; rintro e w1 ⟨rfl, hb⟩; rw [HBZ.out]; have HB9 := Aside0.mk (XW.out.trans (hb.mono XW.out.size)); have HS9 := Aside0.mk (XT.out.below hb); clear hb)
            go_roundg k1
            case measure => omega
            case rel =>
              refine ⟨i + 1, by first | rfl | exact congrArg _ (w1_of (by have := HBIG.out; have := C5.out; omega)), ⟨by have := HI.out; have := C5.out; omega⟩, ⟨fun j hj => ?_⟩, HB9, ⟨?_⟩⟩
              · by_cases e : j = i
                · subst e; exact HS0.out
                · exact HA.out j (by omega)
              · have h9 := HS9.out
                have hu := HUS.out
                rw [HDD.out] at hu
                unfold sn27
                rw [hu, if_neg (by decide)]
                obtain ⟨D9, hD9, hD8⟩ := h9
                exact ⟨D9, hD9.mono (Nat.le_succ _), hD8⟩
        have e0b : (d.f0 == 0) = false := beq_eq_false_iff_ne.mpr e0
        by_cases e3 : d.f0 = 3
        · have e3b : (d.f0 == 3) = true := beq_iff_eq.mpr e3
          have x2 := (blk_cell XN.out 2).trans rfl
          have x3 := (blk_cell XN.out 3).trans rfl
          have x4 := (blk_cell XN.out 4).trans rfl
          have x5 := (blk_cell XN.out 5).trans rfl
          have x6 := (blk_cell XN.out 6).trans rfl
          have x7 := (blk_cell XN.out 7).trans rfl
          have hs0 := st27_0 (ds := ds) (ser := ser) (i := i) (by rw [← HDD.out]; exact (.inr e3))
          rw [← HDD.out] at hs0
          have HS0 := Aside0.mk (HST.out.trans hs0)
          obtain ⟨bz, hbz⟩ : ∃ b, z29o d.f2 = b := ⟨_, rfl⟩
          have HBZ := Aside0.mk (show blkB d.f2.f0 d.f2.f1 d.f2.f2 d.f2.f3 d.f2.f4 d.f2.f5.length = bz from hbz)
          rw [hbz] at HS0
          have HUS := Aside0.mk (us27_no (d := d) (by omega) (by omega))
          clear hs0 hbz
          cases bz with
          | false =>
            have hr := srt_no (last := last) (ser := ser) i C5.out HS0.out
            go_wp2_with (go_at_call 63; refine (blank_c _ _ _ _ _ _ _ _ _).mono ?_; rintro e w1 ⟨rfl, hb⟩; rw [HBZ.out]; have HB9 := Aside0.mk (XX.out.trans (hb.mono XX.out.size)); clear hb)
            go_ret
            exact ⟨by first | rfl | (rw [hr]; rfl), HB9.out⟩
          | true =>
            go_wp2_with (go_at_call 63; refine (blank_c _ _ _ _ _ _ _ _ _).mono ?_; rintro e w1 ⟨rfl, hb⟩; rw [HBZ.out]; have HB9 := Aside0.mk (XW.out.trans (hb.mono XW.out.size)); have HS9 := Aside0.mk (XT.out.below hb); clear hb)
            go_roundg k1
            case measure => omega
            case rel =>
              refine ⟨i + 1, by first | rfl | exact congrArg _ (w1_of (by have := HBIG.out; have := C5.out; omega)), ⟨by have := HI.out; have := C5.out; omega⟩, ⟨fun j hj => ?_⟩, HB9, ⟨?_⟩⟩
              · by_cases e : j = i
                · subst e; exact HS0.out
                · exact HA.out j (by omega)
              · have h9 := HS9.out
                have hu := HUS.out
                rw [HDD.out] at hu
                unfold sn27
                rw [hu, if_neg (by decide)]
                obtain ⟨D9, hD9, hD8⟩ := h9
                exact ⟨D9, hD9.mono (Nat.le_succ _), hD8⟩
        have e3b : (d.f0 == 3) = false := beq_eq_false_iff_ne.mpr e3
        by_cases e1 : d.f0 = 1
        · have e1b : (d.f0 == 1) = true := beq_iff_eq.mpr e1
          have x2 := (blk_cell XN.out 2).trans rfl
          have s2 := (blk_cell (blk_below B0.out XW.out) 2).trans rfl
          have hs1 := st27_1 (ds := ds) (ser := ser) (i := i) (by rw [← HDD.out]; exact (.inl e1))
          have HS1 := Aside0.mk hs1
          have HUS := Aside0.mk (us27_of (d := d) (.inl e1))
          clear hs1
          go_upto_region 18 with (go_at_call 64; refine (rules_c _ _).mono ?_; rintro e w1 ⟨rfl, hw1⟩; have RB := Aside0.mk (show Below X.heap.size X w1 by rw [hw1]; exact ((Below.refl _ _).alloc (Nat.le_refl _) _).alloc (by simp) _); have RG := Aside0.mk (show w1.heap[X.heap.size]? = some (.cells #[.int .i64 ser] 3 (0, 0)) by rw [hw1]; exact blk_alloc (blk_new X _) _); have RF := Aside0.mk (show w1.heap[X.heap.size + 1]? = some (.cells #[.func (.func 95) #[] #[.pointer (some ⟨X.heap.size, 0, none⟩)], .func (.func 96) #[] #[], .func (.func 97) #[] #[], .func (.func 98) #[] #[]] 94 (0, 0)) by rw [hw1]; have h := blk_new (X.alloc (.cells #[.int .i64 ser] 3)) (.cells #[.func (.func 95) #[] #[.pointer (some ⟨X.heap.size, 0, none⟩)], .func (.func 96) #[] #[], .func (.func 97) #[] #[], .func (.func 98) #[] #[]] 94); rw [World.size_alloc] at h; exact h); clear hw1)
          have RX := Aside0.mk (blk_below XN.out RB.out)
          have RT := Aside0.mk (XT.out.below RB.out)
          have RW := Aside0.mk (XW.out.trans (RB.out.mono XW.out.size))
          clear x0 x2 s2
          go_loopg [66] 5 (fun kq v66 w' => ∃ j : Nat, v66 = .int .i64 (j : Int) ∧ Aside0 (j ≤ 4 ∧ kq + j = 5) ∧ Aside0 (∀ q, q < j → ru27 ds ser i q = true) ∧ Aside0 (Below w1.heap.size w1 w'))
          case atStart => exact ⟨0, by simp, ⟨by omega⟩, ⟨fun q hq => absurd hq (by omega)⟩, ⟨Below.refl _ _⟩⟩
          case round =>
            obtain ⟨j, rfl, HJ, HA2, HB2⟩ := hrel
            cases gk with
            | zero => exact absurd HJ.out (by omega)
            | succ k2 =>
              by_cases c8 : j < 4
              · obtain rfl | rfl | rfl | rfl : j = 0 ∨ j = 1 ∨ j = 2 ∨ j = 3 := by omega
                · have cf := (blk_cell (blk_below RF.out HB2.out) 0).trans rfl
                  go_upto_region 20 with (fail)
                  generalize hY : wr.alloc (.cells #[.func (.func 95) #[] #[.pointer (some ⟨X.heap.size, 0, none⟩)]] 94) = Y
                  have YB := Aside0.mk (show Below wr.heap.size wr Y by rw [← hY]; exact (Below.refl _ _).alloc (Nat.le_refl _) _)
                  have YN := Aside0.mk (show Y.heap[wr.heap.size]? = some (.cells #[.func (.func 95) #[] #[.pointer (some ⟨X.heap.size, 0, none⟩)]] 94 (0, 0)) by rw [← hY]; exact blk_new wr _)
                  clear hY cf
                  have Y2 := Aside0.mk (HB2.out.trans (YB.out.mono HB2.out.size))
                  have YW := Aside0.mk (RW.out.trans (Y2.out.mono RW.out.size))
                  have YX := Aside0.mk (blk_below RX.out Y2.out)
                  have YG := Aside0.mk ((blk_cell (blk_below RG.out Y2.out) 0).trans rfl)
                  have y0 := (blk_cell YN.out 0).trans rfl
                  have y2 := (blk_cell YX.out 2).trans rfl
                  have y3 := (blk_cell YX.out 3).trans rfl
                  have y4 := (blk_cell YX.out 4).trans rfl
                  have y5 := (blk_cell YX.out 5).trans rfl
                  have y6 := (blk_cell YX.out 6).trans rfl
                  have y7 := (blk_cell YX.out 7).trans rfl
                  obtain ⟨rb, hrb⟩ : ∃ b, rul27 d.f2 ser 0 = b := ⟨_, rfl⟩
                  have HRB := Aside0.mk hrb
                  clear hrb
                  cases rb with
                  | false =>
                    have hr := srt_no (last := last) (ser := ser) i C5.out (HST.out.trans (HS1.out.trans (ru27_no 0 (by decide) (by unfold ru27; rw [← HDD.out, HRB.out]; rfl))))
                    go_wp2_with (go_at_call 95; refine (rule1_c _ _ _ _ _ _ _ _ _ YG.out).mono ?_; rintro e w3 ⟨rfl, hb⟩; have hq : (decide (1 ≤ d.f2.f0) && decide (d.f2.f0 ≤ ser)) = false := HRB.out; rw [hq]; have HB9 := Aside0.mk (YW.out.trans (hb.mono YW.out.size)); clear hb hq)
                    go_ret
                    exact ⟨by first | rfl | (rw [hr]; rfl), HB0.out.trans (HB9.out.mono HB0.out.size)⟩
                  | true =>
                    have HWF := Aside0.mk (show (Lit.int .i64 d.f2.f0).wf = true by
                      have h1 := HSER.out
                      have h0 : (decide (1 ≤ d.f2.f0) && decide (d.f2.f0 ≤ ser)) = true := by
                        exact HRB.out
                      rw [Bool.and_eq_true] at h0
                      have h2 := of_decide_eq_true h0.1
                      have h3 := of_decide_eq_true h0.2
                      exact WalkArith.wf_i64 (by omega))
                    obtain ⟨bs, hbs⟩ : ∃ b, (sn27 ds i).contains d.f2.f0 = b := ⟨_, rfl⟩
                    have HBS := Aside0.mk hbs
                    clear hbs
                    cases bs with
                    | true =>
                      have hr := srt_no (last := last) (ser := ser) i C5.out (HST.out.trans (HS1.out.trans (ru27_no 0 (by decide) (by unfold ru27; rw [← HDD.out, HRB.out, HBS.out]; rfl))))
                      go_wp2_with (go_at_call 95; refine (rule1_c _ _ _ _ _ _ _ _ _ YG.out).mono ?_; rintro e w3 ⟨rfl, hb⟩; have hq : (decide (1 ≤ d.f2.f0) && decide (d.f2.f0 ≤ ser)) = true := HRB.out; rw [hq]; have v2 := (blk_cell (blk_below YX.out hb) 2).trans rfl; have hlk := (RT.out.below (Y2.out.trans (hb.mono Y2.out.size))).look d.f2.f0 HWF.out; rw [HBS.out] at hlk; have HB9 := Aside0.mk (YW.out.trans (hb.mono YW.out.size)); clear hb hq)
                      go_ret
                      exact ⟨by first | rfl | (rw [hr]; rfl), HB0.out.trans (HB9.out.mono HB0.out.size)⟩
                    | false =>
                      go_wp2_with (go_at_call 95; refine (rule1_c _ _ _ _ _ _ _ _ _ YG.out).mono ?_; rintro e w3 ⟨rfl, hb⟩; have hq : (decide (1 ≤ d.f2.f0) && decide (d.f2.f0 ≤ ser)) = true := HRB.out; rw [hq]; have v2 := (blk_cell (blk_below YX.out hb) 2).trans rfl; have hlk := (RT.out.below (Y2.out.trans (hb.mono Y2.out.size))).look d.f2.f0 HWF.out; rw [HBS.out] at hlk; have HB9 := Aside0.mk (Y2.out.trans (hb.mono Y2.out.size)); clear hb hq)
                      go_roundg k2
                      case measure => omega
                      case rel =>
                        refine ⟨1, by first | rfl | (simp; done), ⟨by have := HJ.out; omega⟩, ⟨fun q hq => ?_⟩, HB9⟩
                        by_cases e : q = 0
                        · subst e; unfold ru27; rw [← HDD.out, HRB.out, HBS.out]; rfl
                        · exact HA2.out q (by omega)
                · have cf := (blk_cell (blk_below RF.out HB2.out) 1).trans rfl
                  go_upto_region 20 with (fail)
                  generalize hY : wr.alloc (.cells #[.func (.func 96) #[] #[]] 94) = Y
                  have YB := Aside0.mk (show Below wr.heap.size wr Y by rw [← hY]; exact (Below.refl _ _).alloc (Nat.le_refl _) _)
                  have YN := Aside0.mk (show Y.heap[wr.heap.size]? = some (.cells #[.func (.func 96) #[] #[]] 94 (0, 0)) by rw [← hY]; exact blk_new wr _)
                  clear hY cf
                  have Y2 := Aside0.mk (HB2.out.trans (YB.out.mono HB2.out.size))
                  have YW := Aside0.mk (RW.out.trans (Y2.out.mono RW.out.size))
                  have YX := Aside0.mk (blk_below RX.out Y2.out)
                  have YG := Aside0.mk ((blk_cell (blk_below RG.out Y2.out) 0).trans rfl)
                  have y0 := (blk_cell YN.out 0).trans rfl
                  have y2 := (blk_cell YX.out 2).trans rfl
                  have y3 := (blk_cell YX.out 3).trans rfl
                  have y4 := (blk_cell YX.out 4).trans rfl
                  have y5 := (blk_cell YX.out 5).trans rfl
                  have y6 := (blk_cell YX.out 6).trans rfl
                  have y7 := (blk_cell YX.out 7).trans rfl
                  obtain ⟨rb, hrb⟩ : ∃ b, rul27 d.f2 ser 1 = b := ⟨_, rfl⟩
                  have HRB := Aside0.mk hrb
                  clear hrb
                  cases rb with
                  | false =>
                    have hr := srt_no (last := last) (ser := ser) i C5.out (HST.out.trans (HS1.out.trans (ru27_no 1 (by decide) (by unfold ru27; rw [← HDD.out, HRB.out]; rfl))))
                    go_wp2_with (go_at_call 96; refine (rule2_c _ _ _ _ _ _ _).mono ?_; rintro e w3 ⟨rfl, hb⟩; have hq : (decide (0 ≤ d.f2.f1) && decide (0 ≤ d.f2.f2)) = false := HRB.out; rw [hq]; have HB9 := Aside0.mk (YW.out.trans (hb.mono YW.out.size)); clear hb hq)
                    go_ret
                    exact ⟨by first | rfl | (rw [hr]; rfl), HB0.out.trans (HB9.out.mono HB0.out.size)⟩
                  | true =>
                    have HWF := Aside0.mk (show (Lit.int .i64 d.f2.f0).wf = true by
                      have h1 := HSER.out
                      have h0 : (decide (1 ≤ d.f2.f0) && decide (d.f2.f0 ≤ ser)) = true := by
                        have h := HA2.out 0 (by omega); unfold ru27 at h; rw [← HDD.out, Bool.and_eq_true] at h; exact h.1
                      rw [Bool.and_eq_true] at h0
                      have h2 := of_decide_eq_true h0.1
                      have h3 := of_decide_eq_true h0.2
                      exact WalkArith.wf_i64 (by omega))
                    obtain ⟨bs, hbs⟩ : ∃ b, (sn27 ds i).contains d.f2.f0 = b := ⟨_, rfl⟩
                    have HBS := Aside0.mk hbs
                    clear hbs
                    cases bs with
                    | true =>
                      have hr := srt_no (last := last) (ser := ser) i C5.out (HST.out.trans (HS1.out.trans (ru27_no 1 (by decide) (by unfold ru27; rw [← HDD.out, HRB.out, HBS.out]; rfl))))
                      go_wp2_with (go_at_call 96; refine (rule2_c _ _ _ _ _ _ _).mono ?_; rintro e w3 ⟨rfl, hb⟩; have hq : (decide (0 ≤ d.f2.f1) && decide (0 ≤ d.f2.f2)) = true := HRB.out; rw [hq]; have v2 := (blk_cell (blk_below YX.out hb) 2).trans rfl; have hlk := (RT.out.below (Y2.out.trans (hb.mono Y2.out.size))).look d.f2.f0 HWF.out; rw [HBS.out] at hlk; have HB9 := Aside0.mk (YW.out.trans (hb.mono YW.out.size)); clear hb hq)
                      go_ret
                      exact ⟨by first | rfl | (rw [hr]; rfl), HB0.out.trans (HB9.out.mono HB0.out.size)⟩
                    | false =>
                      go_wp2_with (go_at_call 96; refine (rule2_c _ _ _ _ _ _ _).mono ?_; rintro e w3 ⟨rfl, hb⟩; have hq : (decide (0 ≤ d.f2.f1) && decide (0 ≤ d.f2.f2)) = true := HRB.out; rw [hq]; have v2 := (blk_cell (blk_below YX.out hb) 2).trans rfl; have hlk := (RT.out.below (Y2.out.trans (hb.mono Y2.out.size))).look d.f2.f0 HWF.out; rw [HBS.out] at hlk; have HB9 := Aside0.mk (Y2.out.trans (hb.mono Y2.out.size)); clear hb hq)
                      go_roundg k2
                      case measure => omega
                      case rel =>
                        refine ⟨2, by first | rfl | (simp; done), ⟨by have := HJ.out; omega⟩, ⟨fun q hq => ?_⟩, HB9⟩
                        by_cases e : q = 1
                        · subst e; unfold ru27; rw [← HDD.out, HRB.out, HBS.out]; rfl
                        · exact HA2.out q (by omega)
                · have cf := (blk_cell (blk_below RF.out HB2.out) 2).trans rfl
                  go_upto_region 20 with (fail)
                  generalize hY : wr.alloc (.cells #[.func (.func 97) #[] #[]] 94) = Y
                  have YB := Aside0.mk (show Below wr.heap.size wr Y by rw [← hY]; exact (Below.refl _ _).alloc (Nat.le_refl _) _)
                  have YN := Aside0.mk (show Y.heap[wr.heap.size]? = some (.cells #[.func (.func 97) #[] #[]] 94 (0, 0)) by rw [← hY]; exact blk_new wr _)
                  clear hY cf
                  have Y2 := Aside0.mk (HB2.out.trans (YB.out.mono HB2.out.size))
                  have YW := Aside0.mk (RW.out.trans (Y2.out.mono RW.out.size))
                  have YX := Aside0.mk (blk_below RX.out Y2.out)
                  have YG := Aside0.mk ((blk_cell (blk_below RG.out Y2.out) 0).trans rfl)
                  have y0 := (blk_cell YN.out 0).trans rfl
                  have y2 := (blk_cell YX.out 2).trans rfl
                  have y3 := (blk_cell YX.out 3).trans rfl
                  have y4 := (blk_cell YX.out 4).trans rfl
                  have y5 := (blk_cell YX.out 5).trans rfl
                  have y6 := (blk_cell YX.out 6).trans rfl
                  have y7 := (blk_cell YX.out 7).trans rfl
                  obtain ⟨rb, hrb⟩ : ∃ b, rul27 d.f2 ser 2 = b := ⟨_, rfl⟩
                  have HRB := Aside0.mk hrb
                  clear hrb
                  cases rb with
                  | false =>
                    have hr := srt_no (last := last) (ser := ser) i C5.out (HST.out.trans (HS1.out.trans (ru27_no 2 (by decide) (by unfold ru27; rw [← HDD.out, HRB.out]; rfl))))
                    go_wp2_with (go_at_call 97; refine (rule3_c _ _ _ _ _ _ _).mono ?_; rintro e w3 ⟨rfl, hb⟩; have hq : (decide (-1 ≤ d.f2.f3) && decide (d.f2.f3 < 6)) = false := HRB.out; rw [hq]; have HB9 := Aside0.mk (YW.out.trans (hb.mono YW.out.size)); clear hb hq)
                    go_ret
                    exact ⟨by first | rfl | (rw [hr]; rfl), HB0.out.trans (HB9.out.mono HB0.out.size)⟩
                  | true =>
                    have HWF := Aside0.mk (show (Lit.int .i64 d.f2.f0).wf = true by
                      have h1 := HSER.out
                      have h0 : (decide (1 ≤ d.f2.f0) && decide (d.f2.f0 ≤ ser)) = true := by
                        have h := HA2.out 0 (by omega); unfold ru27 at h; rw [← HDD.out, Bool.and_eq_true] at h; exact h.1
                      rw [Bool.and_eq_true] at h0
                      have h2 := of_decide_eq_true h0.1
                      have h3 := of_decide_eq_true h0.2
                      exact WalkArith.wf_i64 (by omega))
                    obtain ⟨bs, hbs⟩ : ∃ b, (sn27 ds i).contains d.f2.f0 = b := ⟨_, rfl⟩
                    have HBS := Aside0.mk hbs
                    clear hbs
                    cases bs with
                    | true =>
                      have hr := srt_no (last := last) (ser := ser) i C5.out (HST.out.trans (HS1.out.trans (ru27_no 2 (by decide) (by unfold ru27; rw [← HDD.out, HRB.out, HBS.out]; rfl))))
                      go_wp2_with (go_at_call 97; refine (rule3_c _ _ _ _ _ _ _).mono ?_; rintro e w3 ⟨rfl, hb⟩; have hq : (decide (-1 ≤ d.f2.f3) && decide (d.f2.f3 < 6)) = true := HRB.out; rw [hq]; have v2 := (blk_cell (blk_below YX.out hb) 2).trans rfl; have hlk := (RT.out.below (Y2.out.trans (hb.mono Y2.out.size))).look d.f2.f0 HWF.out; rw [HBS.out] at hlk; have HB9 := Aside0.mk (YW.out.trans (hb.mono YW.out.size)); clear hb hq)
                      go_ret
                      exact ⟨by first | rfl | (rw [hr]; rfl), HB0.out.trans (HB9.out.mono HB0.out.size)⟩
                    | false =>
                      go_wp2_with (go_at_call 97; refine (rule3_c _ _ _ _ _ _ _).mono ?_; rintro e w3 ⟨rfl, hb⟩; have hq : (decide (-1 ≤ d.f2.f3) && decide (d.f2.f3 < 6)) = true := HRB.out; rw [hq]; have v2 := (blk_cell (blk_below YX.out hb) 2).trans rfl; have hlk := (RT.out.below (Y2.out.trans (hb.mono Y2.out.size))).look d.f2.f0 HWF.out; rw [HBS.out] at hlk; have HB9 := Aside0.mk (Y2.out.trans (hb.mono Y2.out.size)); clear hb hq)
                      go_roundg k2
                      case measure => omega
                      case rel =>
                        refine ⟨3, by first | rfl | (simp; done), ⟨by have := HJ.out; omega⟩, ⟨fun q hq => ?_⟩, HB9⟩
                        by_cases e : q = 2
                        · subst e; unfold ru27; rw [← HDD.out, HRB.out, HBS.out]; rfl
                        · exact HA2.out q (by omega)
                · have cf := (blk_cell (blk_below RF.out HB2.out) 3).trans rfl
                  go_upto_region 20 with (fail)
                  generalize hY : wr.alloc (.cells #[.func (.func 98) #[] #[]] 94) = Y
                  have YB := Aside0.mk (show Below wr.heap.size wr Y by rw [← hY]; exact (Below.refl _ _).alloc (Nat.le_refl _) _)
                  have YN := Aside0.mk (show Y.heap[wr.heap.size]? = some (.cells #[.func (.func 98) #[] #[]] 94 (0, 0)) by rw [← hY]; exact blk_new wr _)
                  clear hY cf
                  have Y2 := Aside0.mk (HB2.out.trans (YB.out.mono HB2.out.size))
                  have YW := Aside0.mk (RW.out.trans (Y2.out.mono RW.out.size))
                  have YX := Aside0.mk (blk_below RX.out Y2.out)
                  have YG := Aside0.mk ((blk_cell (blk_below RG.out Y2.out) 0).trans rfl)
                  have y0 := (blk_cell YN.out 0).trans rfl
                  have y2 := (blk_cell YX.out 2).trans rfl
                  have y3 := (blk_cell YX.out 3).trans rfl
                  have y4 := (blk_cell YX.out 4).trans rfl
                  have y5 := (blk_cell YX.out 5).trans rfl
                  have y6 := (blk_cell YX.out 6).trans rfl
                  have y7 := (blk_cell YX.out 7).trans rfl
                  obtain ⟨rb, hrb⟩ : ∃ b, rul27 d.f2 ser 3 = b := ⟨_, rfl⟩
                  have HRB := Aside0.mk hrb
                  clear hrb
                  cases rb with
                  | false =>
                    have hr := srt_no (last := last) (ser := ser) i C5.out (HST.out.trans (HS1.out.trans (ru27_no 3 (by decide) (by unfold ru27; rw [← HDD.out, HRB.out]; rfl))))
                    go_wp2_with (go_at_call 98; refine (rule4_c _ _ _ _ _ _ _ _ _).mono ?_; rintro e w3 ⟨rfl, hb⟩; have hq : (decide ((d.f2.f5.length : Int) ≤ 4)) = false := HRB.out; rw [hq]; have HB9 := Aside0.mk (YW.out.trans (hb.mono YW.out.size)); clear hb hq)
                    go_ret
                    exact ⟨by first | rfl | (rw [hr]; rfl), HB0.out.trans (HB9.out.mono HB0.out.size)⟩
                  | true =>
                    have HWF := Aside0.mk (show (Lit.int .i64 d.f2.f0).wf = true by
                      have h1 := HSER.out
                      have h0 : (decide (1 ≤ d.f2.f0) && decide (d.f2.f0 ≤ ser)) = true := by
                        have h := HA2.out 0 (by omega); unfold ru27 at h; rw [← HDD.out, Bool.and_eq_true] at h; exact h.1
                      rw [Bool.and_eq_true] at h0
                      have h2 := of_decide_eq_true h0.1
                      have h3 := of_decide_eq_true h0.2
                      exact WalkArith.wf_i64 (by omega))
                    obtain ⟨bs, hbs⟩ : ∃ b, (sn27 ds i).contains d.f2.f0 = b := ⟨_, rfl⟩
                    have HBS := Aside0.mk hbs
                    clear hbs
                    cases bs with
                    | true =>
                      have hr := srt_no (last := last) (ser := ser) i C5.out (HST.out.trans (HS1.out.trans (ru27_no 3 (by decide) (by unfold ru27; rw [← HDD.out, HRB.out, HBS.out]; rfl))))
                      go_wp2_with (go_at_call 98; refine (rule4_c _ _ _ _ _ _ _ _ _).mono ?_; rintro e w3 ⟨rfl, hb⟩; have hq : (decide ((d.f2.f5.length : Int) ≤ 4)) = true := HRB.out; rw [hq]; have v2 := (blk_cell (blk_below YX.out hb) 2).trans rfl; have hlk := (RT.out.below (Y2.out.trans (hb.mono Y2.out.size))).look d.f2.f0 HWF.out; rw [HBS.out] at hlk; have HB9 := Aside0.mk (YW.out.trans (hb.mono YW.out.size)); clear hb hq)
                      go_ret
                      exact ⟨by first | rfl | (rw [hr]; rfl), HB0.out.trans (HB9.out.mono HB0.out.size)⟩
                    | false =>
                      go_wp2_with (go_at_call 98; refine (rule4_c _ _ _ _ _ _ _ _ _).mono ?_; rintro e w3 ⟨rfl, hb⟩; have hq : (decide ((d.f2.f5.length : Int) ≤ 4)) = true := HRB.out; rw [hq]; have v2 := (blk_cell (blk_below YX.out hb) 2).trans rfl; have hlk := (RT.out.below (Y2.out.trans (hb.mono Y2.out.size))).look d.f2.f0 HWF.out; rw [HBS.out] at hlk; have HB9 := Aside0.mk (Y2.out.trans (hb.mono Y2.out.size)); clear hb hq)
                      go_roundg k2
                      case measure => omega
                      case rel =>
                        refine ⟨4, by first | rfl | (simp; done), ⟨by have := HJ.out; omega⟩, ⟨fun q hq => ?_⟩, HB9⟩
                        by_cases e : q = 3
                        · subst e; unfold ru27; rw [← HDD.out, HRB.out, HBS.out]; rfl
                        · exact HA2.out q (by omega)
              · obtain rfl : j = 4 := by have := HJ.out; omega
                have v2 := (blk_cell (blk_below RX.out HB2.out) 2).trans rfl
                have hwf : (Lit.int .i64 d.f2.f0).wf = true := by
                  have h1 := HSER.out
                  have h := HA2.out 0 (by omega)
                  unfold ru27 at h
                  rw [← HDD.out, Bool.and_eq_true] at h
                  have h0 : (decide (1 ≤ d.f2.f0) && decide (d.f2.f0 ≤ ser)) = true := h.1
                  rw [Bool.and_eq_true] at h0
                  have h2 := of_decide_eq_true h0.1
                  have h3 := of_decide_eq_true h0.2
                  exact WalkArith.wf_i64 (by omega)
                obtain ⟨w9, hrun, hs9, hg9⟩ := (RT.out.below HB2.out).store (by have := HBIG.out; have := C5.out; unfold maxLen; omega) d.f2.f0 hwf
                have HS9 := Aside0.mk hs9
                have HB9 := Aside0.mk ((RW.out.trans (HB2.out.mono RW.out.size)).grown hg9 (Nat.le_trans RW.out.size HB2.out.size) (fun k hk => by cases hk; exact Nat.le_refl _))
                clear hs9 hg9 hwf c8
                go_wp2
                go_roundg k1
                case measure => omega
                case rel =>
                  refine ⟨i + 1, by first | rfl | exact congrArg _ (w1_of (by have := HBIG.out; have := C5.out; omega)), ⟨by have := HI.out; have := C5.out; omega⟩, ⟨fun q hq => ?_⟩, HB9, ⟨?_⟩⟩
                  · by_cases e : q = i
                    · subst e; exact HST.out.trans (HS1.out.trans (ru27_yes HA2.out))
                    · exact HA.out q (by omega)
                  · have h9 := HS9.out
                    have hu := HUS.out
                    rw [HDD.out] at hu h9
                    unfold sn27
                    rw [hu, if_pos rfl]
                    exact h9
        have e1b : (d.f0 == 1) = false := beq_eq_false_iff_ne.mpr e1
        by_cases e2 : d.f0 = 2
        · have e2b : (d.f0 == 2) = true := beq_iff_eq.mpr e2
          have x2 := (blk_cell XN.out 2).trans rfl
          have s2 := (blk_cell (blk_below B0.out XW.out) 2).trans rfl
          have hs1 := st27_1 (ds := ds) (ser := ser) (i := i) (by rw [← HDD.out]; exact (.inr e2))
          have HS1 := Aside0.mk hs1
          have HUS := Aside0.mk (us27_of (d := d) (.inr e2))
          clear hs1
          go_upto_region 18 with (go_at_call 64; refine (rules_c _ _).mono ?_; rintro e w1 ⟨rfl, hw1⟩; have RB := Aside0.mk (show Below X.heap.size X w1 by rw [hw1]; exact ((Below.refl _ _).alloc (Nat.le_refl _) _).alloc (by simp) _); have RG := Aside0.mk (show w1.heap[X.heap.size]? = some (.cells #[.int .i64 ser] 3 (0, 0)) by rw [hw1]; exact blk_alloc (blk_new X _) _); have RF := Aside0.mk (show w1.heap[X.heap.size + 1]? = some (.cells #[.func (.func 95) #[] #[.pointer (some ⟨X.heap.size, 0, none⟩)], .func (.func 96) #[] #[], .func (.func 97) #[] #[], .func (.func 98) #[] #[]] 94 (0, 0)) by rw [hw1]; have h := blk_new (X.alloc (.cells #[.int .i64 ser] 3)) (.cells #[.func (.func 95) #[] #[.pointer (some ⟨X.heap.size, 0, none⟩)], .func (.func 96) #[] #[], .func (.func 97) #[] #[], .func (.func 98) #[] #[]] 94); rw [World.size_alloc] at h; exact h); clear hw1)
          have RX := Aside0.mk (blk_below XN.out RB.out)
          have RT := Aside0.mk (XT.out.below RB.out)
          have RW := Aside0.mk (XW.out.trans (RB.out.mono XW.out.size))
          clear x0 x2 s2
          go_loopg [66] 5 (fun kq v66 w' => ∃ j : Nat, v66 = .int .i64 (j : Int) ∧ Aside0 (j ≤ 4 ∧ kq + j = 5) ∧ Aside0 (∀ q, q < j → ru27 ds ser i q = true) ∧ Aside0 (Below w1.heap.size w1 w'))
          case atStart => exact ⟨0, by simp, ⟨by omega⟩, ⟨fun q hq => absurd hq (by omega)⟩, ⟨Below.refl _ _⟩⟩
          case round =>
            obtain ⟨j, rfl, HJ, HA2, HB2⟩ := hrel
            cases gk with
            | zero => exact absurd HJ.out (by omega)
            | succ k2 =>
              by_cases c8 : j < 4
              · obtain rfl | rfl | rfl | rfl : j = 0 ∨ j = 1 ∨ j = 2 ∨ j = 3 := by omega
                · have cf := (blk_cell (blk_below RF.out HB2.out) 0).trans rfl
                  go_upto_region 20 with (fail)
                  generalize hY : wr.alloc (.cells #[.func (.func 95) #[] #[.pointer (some ⟨X.heap.size, 0, none⟩)]] 94) = Y
                  have YB := Aside0.mk (show Below wr.heap.size wr Y by rw [← hY]; exact (Below.refl _ _).alloc (Nat.le_refl _) _)
                  have YN := Aside0.mk (show Y.heap[wr.heap.size]? = some (.cells #[.func (.func 95) #[] #[.pointer (some ⟨X.heap.size, 0, none⟩)]] 94 (0, 0)) by rw [← hY]; exact blk_new wr _)
                  clear hY cf
                  have Y2 := Aside0.mk (HB2.out.trans (YB.out.mono HB2.out.size))
                  have YW := Aside0.mk (RW.out.trans (Y2.out.mono RW.out.size))
                  have YX := Aside0.mk (blk_below RX.out Y2.out)
                  have YG := Aside0.mk ((blk_cell (blk_below RG.out Y2.out) 0).trans rfl)
                  have y0 := (blk_cell YN.out 0).trans rfl
                  have y2 := (blk_cell YX.out 2).trans rfl
                  have y3 := (blk_cell YX.out 3).trans rfl
                  have y4 := (blk_cell YX.out 4).trans rfl
                  have y5 := (blk_cell YX.out 5).trans rfl
                  have y6 := (blk_cell YX.out 6).trans rfl
                  have y7 := (blk_cell YX.out 7).trans rfl
                  obtain ⟨rb, hrb⟩ : ∃ b, rul27 d.f2 ser 0 = b := ⟨_, rfl⟩
                  have HRB := Aside0.mk hrb
                  clear hrb
                  cases rb with
                  | false =>
                    have hr := srt_no (last := last) (ser := ser) i C5.out (HST.out.trans (HS1.out.trans (ru27_no 0 (by decide) (by unfold ru27; rw [← HDD.out, HRB.out]; rfl))))
                    go_wp2_with (go_at_call 95; refine (rule1_c _ _ _ _ _ _ _ _ _ YG.out).mono ?_; rintro e w3 ⟨rfl, hb⟩; have hq : (decide (1 ≤ d.f2.f0) && decide (d.f2.f0 ≤ ser)) = false := HRB.out; rw [hq]; have HB9 := Aside0.mk (YW.out.trans (hb.mono YW.out.size)); clear hb hq)
                    go_ret
                    exact ⟨by first | rfl | (rw [hr]; rfl), HB0.out.trans (HB9.out.mono HB0.out.size)⟩
                  | true =>
                    have HWF := Aside0.mk (show (Lit.int .i64 d.f2.f0).wf = true by
                      have h1 := HSER.out
                      have h0 : (decide (1 ≤ d.f2.f0) && decide (d.f2.f0 ≤ ser)) = true := by
                        exact HRB.out
                      rw [Bool.and_eq_true] at h0
                      have h2 := of_decide_eq_true h0.1
                      have h3 := of_decide_eq_true h0.2
                      exact WalkArith.wf_i64 (by omega))
                    obtain ⟨bs, hbs⟩ : ∃ b, (sn27 ds i).contains d.f2.f0 = b := ⟨_, rfl⟩
                    have HBS := Aside0.mk hbs
                    clear hbs
                    cases bs with
                    | true =>
                      have hr := srt_no (last := last) (ser := ser) i C5.out (HST.out.trans (HS1.out.trans (ru27_no 0 (by decide) (by unfold ru27; rw [← HDD.out, HRB.out, HBS.out]; rfl))))
                      go_wp2_with (go_at_call 95; refine (rule1_c _ _ _ _ _ _ _ _ _ YG.out).mono ?_; rintro e w3 ⟨rfl, hb⟩; have hq : (decide (1 ≤ d.f2.f0) && decide (d.f2.f0 ≤ ser)) = true := HRB.out; rw [hq]; have v2 := (blk_cell (blk_below YX.out hb) 2).trans rfl; have hlk := (RT.out.below (Y2.out.trans (hb.mono Y2.out.size))).look d.f2.f0 HWF.out; rw [HBS.out] at hlk; have HB9 := Aside0.mk (YW.out.trans (hb.mono YW.out.size)); clear hb hq)
                      go_ret
                      exact ⟨by first | rfl | (rw [hr]; rfl), HB0.out.trans (HB9.out.mono HB0.out.size)⟩
                    | false =>
                      go_wp2_with (go_at_call 95; refine (rule1_c _ _ _ _ _ _ _ _ _ YG.out).mono ?_; rintro e w3 ⟨rfl, hb⟩; have hq : (decide (1 ≤ d.f2.f0) && decide (d.f2.f0 ≤ ser)) = true := HRB.out; rw [hq]; have v2 := (blk_cell (blk_below YX.out hb) 2).trans rfl; have hlk := (RT.out.below (Y2.out.trans (hb.mono Y2.out.size))).look d.f2.f0 HWF.out; rw [HBS.out] at hlk; have HB9 := Aside0.mk (Y2.out.trans (hb.mono Y2.out.size)); clear hb hq)
                      go_roundg k2
                      case measure => omega
                      case rel =>
                        refine ⟨1, by first | rfl | (simp; done), ⟨by have := HJ.out; omega⟩, ⟨fun q hq => ?_⟩, HB9⟩
                        by_cases e : q = 0
                        · subst e; unfold ru27; rw [← HDD.out, HRB.out, HBS.out]; rfl
                        · exact HA2.out q (by omega)
                · have cf := (blk_cell (blk_below RF.out HB2.out) 1).trans rfl
                  go_upto_region 20 with (fail)
                  generalize hY : wr.alloc (.cells #[.func (.func 96) #[] #[]] 94) = Y
                  have YB := Aside0.mk (show Below wr.heap.size wr Y by rw [← hY]; exact (Below.refl _ _).alloc (Nat.le_refl _) _)
                  have YN := Aside0.mk (show Y.heap[wr.heap.size]? = some (.cells #[.func (.func 96) #[] #[]] 94 (0, 0)) by rw [← hY]; exact blk_new wr _)
                  clear hY cf
                  have Y2 := Aside0.mk (HB2.out.trans (YB.out.mono HB2.out.size))
                  have YW := Aside0.mk (RW.out.trans (Y2.out.mono RW.out.size))
                  have YX := Aside0.mk (blk_below RX.out Y2.out)
                  have YG := Aside0.mk ((blk_cell (blk_below RG.out Y2.out) 0).trans rfl)
                  have y0 := (blk_cell YN.out 0).trans rfl
                  have y2 := (blk_cell YX.out 2).trans rfl
                  have y3 := (blk_cell YX.out 3).trans rfl
                  have y4 := (blk_cell YX.out 4).trans rfl
                  have y5 := (blk_cell YX.out 5).trans rfl
                  have y6 := (blk_cell YX.out 6).trans rfl
                  have y7 := (blk_cell YX.out 7).trans rfl
                  obtain ⟨rb, hrb⟩ : ∃ b, rul27 d.f2 ser 1 = b := ⟨_, rfl⟩
                  have HRB := Aside0.mk hrb
                  clear hrb
                  cases rb with
                  | false =>
                    have hr := srt_no (last := last) (ser := ser) i C5.out (HST.out.trans (HS1.out.trans (ru27_no 1 (by decide) (by unfold ru27; rw [← HDD.out, HRB.out]; rfl))))
                    go_wp2_with (go_at_call 96; refine (rule2_c _ _ _ _ _ _ _).mono ?_; rintro e w3 ⟨rfl, hb⟩; have hq : (decide (0 ≤ d.f2.f1) && decide (0 ≤ d.f2.f2)) = false := HRB.out; rw [hq]; have HB9 := Aside0.mk (YW.out.trans (hb.mono YW.out.size)); clear hb hq)
                    go_ret
                    exact ⟨by first | rfl | (rw [hr]; rfl), HB0.out.trans (HB9.out.mono HB0.out.size)⟩
                  | true =>
                    have HWF := Aside0.mk (show (Lit.int .i64 d.f2.f0).wf = true by
                      have h1 := HSER.out
                      have h0 : (decide (1 ≤ d.f2.f0) && decide (d.f2.f0 ≤ ser)) = true := by
                        have h := HA2.out 0 (by omega); unfold ru27 at h; rw [← HDD.out, Bool.and_eq_true] at h; exact h.1
                      rw [Bool.and_eq_true] at h0
                      have h2 := of_decide_eq_true h0.1
                      have h3 := of_decide_eq_true h0.2
                      exact WalkArith.wf_i64 (by omega))
                    obtain ⟨bs, hbs⟩ : ∃ b, (sn27 ds i).contains d.f2.f0 = b := ⟨_, rfl⟩
                    have HBS := Aside0.mk hbs
                    clear hbs
                    cases bs with
                    | true =>
                      have hr := srt_no (last := last) (ser := ser) i C5.out (HST.out.trans (HS1.out.trans (ru27_no 1 (by decide) (by unfold ru27; rw [← HDD.out, HRB.out, HBS.out]; rfl))))
                      go_wp2_with (go_at_call 96; refine (rule2_c _ _ _ _ _ _ _).mono ?_; rintro e w3 ⟨rfl, hb⟩; have hq : (decide (0 ≤ d.f2.f1) && decide (0 ≤ d.f2.f2)) = true := HRB.out; rw [hq]; have v2 := (blk_cell (blk_below YX.out hb) 2).trans rfl; have hlk := (RT.out.below (Y2.out.trans (hb.mono Y2.out.size))).look d.f2.f0 HWF.out; rw [HBS.out] at hlk; have HB9 := Aside0.mk (YW.out.trans (hb.mono YW.out.size)); clear hb hq)
                      go_ret
                      exact ⟨by first | rfl | (rw [hr]; rfl), HB0.out.trans (HB9.out.mono HB0.out.size)⟩
                    | false =>
                      go_wp2_with (go_at_call 96; refine (rule2_c _ _ _ _ _ _ _).mono ?_; rintro e w3 ⟨rfl, hb⟩; have hq : (decide (0 ≤ d.f2.f1) && decide (0 ≤ d.f2.f2)) = true := HRB.out; rw [hq]; have v2 := (blk_cell (blk_below YX.out hb) 2).trans rfl; have hlk := (RT.out.below (Y2.out.trans (hb.mono Y2.out.size))).look d.f2.f0 HWF.out; rw [HBS.out] at hlk; have HB9 := Aside0.mk (Y2.out.trans (hb.mono Y2.out.size)); clear hb hq)
                      go_roundg k2
                      case measure => omega
                      case rel =>
                        refine ⟨2, by first | rfl | (simp; done), ⟨by have := HJ.out; omega⟩, ⟨fun q hq => ?_⟩, HB9⟩
                        by_cases e : q = 1
                        · subst e; unfold ru27; rw [← HDD.out, HRB.out, HBS.out]; rfl
                        · exact HA2.out q (by omega)
                · have cf := (blk_cell (blk_below RF.out HB2.out) 2).trans rfl
                  go_upto_region 20 with (fail)
                  generalize hY : wr.alloc (.cells #[.func (.func 97) #[] #[]] 94) = Y
                  have YB := Aside0.mk (show Below wr.heap.size wr Y by rw [← hY]; exact (Below.refl _ _).alloc (Nat.le_refl _) _)
                  have YN := Aside0.mk (show Y.heap[wr.heap.size]? = some (.cells #[.func (.func 97) #[] #[]] 94 (0, 0)) by rw [← hY]; exact blk_new wr _)
                  clear hY cf
                  have Y2 := Aside0.mk (HB2.out.trans (YB.out.mono HB2.out.size))
                  have YW := Aside0.mk (RW.out.trans (Y2.out.mono RW.out.size))
                  have YX := Aside0.mk (blk_below RX.out Y2.out)
                  have YG := Aside0.mk ((blk_cell (blk_below RG.out Y2.out) 0).trans rfl)
                  have y0 := (blk_cell YN.out 0).trans rfl
                  have y2 := (blk_cell YX.out 2).trans rfl
                  have y3 := (blk_cell YX.out 3).trans rfl
                  have y4 := (blk_cell YX.out 4).trans rfl
                  have y5 := (blk_cell YX.out 5).trans rfl
                  have y6 := (blk_cell YX.out 6).trans rfl
                  have y7 := (blk_cell YX.out 7).trans rfl
                  obtain ⟨rb, hrb⟩ : ∃ b, rul27 d.f2 ser 2 = b := ⟨_, rfl⟩
                  have HRB := Aside0.mk hrb
                  clear hrb
                  cases rb with
                  | false =>
                    have hr := srt_no (last := last) (ser := ser) i C5.out (HST.out.trans (HS1.out.trans (ru27_no 2 (by decide) (by unfold ru27; rw [← HDD.out, HRB.out]; rfl))))
                    go_wp2_with (go_at_call 97; refine (rule3_c _ _ _ _ _ _ _).mono ?_; rintro e w3 ⟨rfl, hb⟩; have hq : (decide (-1 ≤ d.f2.f3) && decide (d.f2.f3 < 6)) = false := HRB.out; rw [hq]; have HB9 := Aside0.mk (YW.out.trans (hb.mono YW.out.size)); clear hb hq)
                    go_ret
                    exact ⟨by first | rfl | (rw [hr]; rfl), HB0.out.trans (HB9.out.mono HB0.out.size)⟩
                  | true =>
                    have HWF := Aside0.mk (show (Lit.int .i64 d.f2.f0).wf = true by
                      have h1 := HSER.out
                      have h0 : (decide (1 ≤ d.f2.f0) && decide (d.f2.f0 ≤ ser)) = true := by
                        have h := HA2.out 0 (by omega); unfold ru27 at h; rw [← HDD.out, Bool.and_eq_true] at h; exact h.1
                      rw [Bool.and_eq_true] at h0
                      have h2 := of_decide_eq_true h0.1
                      have h3 := of_decide_eq_true h0.2
                      exact WalkArith.wf_i64 (by omega))
                    obtain ⟨bs, hbs⟩ : ∃ b, (sn27 ds i).contains d.f2.f0 = b := ⟨_, rfl⟩
                    have HBS := Aside0.mk hbs
                    clear hbs
                    cases bs with
                    | true =>
                      have hr := srt_no (last := last) (ser := ser) i C5.out (HST.out.trans (HS1.out.trans (ru27_no 2 (by decide) (by unfold ru27; rw [← HDD.out, HRB.out, HBS.out]; rfl))))
                      go_wp2_with (go_at_call 97; refine (rule3_c _ _ _ _ _ _ _).mono ?_; rintro e w3 ⟨rfl, hb⟩; have hq : (decide (-1 ≤ d.f2.f3) && decide (d.f2.f3 < 6)) = true := HRB.out; rw [hq]; have v2 := (blk_cell (blk_below YX.out hb) 2).trans rfl; have hlk := (RT.out.below (Y2.out.trans (hb.mono Y2.out.size))).look d.f2.f0 HWF.out; rw [HBS.out] at hlk; have HB9 := Aside0.mk (YW.out.trans (hb.mono YW.out.size)); clear hb hq)
                      go_ret
                      exact ⟨by first | rfl | (rw [hr]; rfl), HB0.out.trans (HB9.out.mono HB0.out.size)⟩
                    | false =>
                      go_wp2_with (go_at_call 97; refine (rule3_c _ _ _ _ _ _ _).mono ?_; rintro e w3 ⟨rfl, hb⟩; have hq : (decide (-1 ≤ d.f2.f3) && decide (d.f2.f3 < 6)) = true := HRB.out; rw [hq]; have v2 := (blk_cell (blk_below YX.out hb) 2).trans rfl; have hlk := (RT.out.below (Y2.out.trans (hb.mono Y2.out.size))).look d.f2.f0 HWF.out; rw [HBS.out] at hlk; have HB9 := Aside0.mk (Y2.out.trans (hb.mono Y2.out.size)); clear hb hq)
                      go_roundg k2
                      case measure => omega
                      case rel =>
                        refine ⟨3, by first | rfl | (simp; done), ⟨by have := HJ.out; omega⟩, ⟨fun q hq => ?_⟩, HB9⟩
                        by_cases e : q = 2
                        · subst e; unfold ru27; rw [← HDD.out, HRB.out, HBS.out]; rfl
                        · exact HA2.out q (by omega)
                · have cf := (blk_cell (blk_below RF.out HB2.out) 3).trans rfl
                  go_upto_region 20 with (fail)
                  generalize hY : wr.alloc (.cells #[.func (.func 98) #[] #[]] 94) = Y
                  have YB := Aside0.mk (show Below wr.heap.size wr Y by rw [← hY]; exact (Below.refl _ _).alloc (Nat.le_refl _) _)
                  have YN := Aside0.mk (show Y.heap[wr.heap.size]? = some (.cells #[.func (.func 98) #[] #[]] 94 (0, 0)) by rw [← hY]; exact blk_new wr _)
                  clear hY cf
                  have Y2 := Aside0.mk (HB2.out.trans (YB.out.mono HB2.out.size))
                  have YW := Aside0.mk (RW.out.trans (Y2.out.mono RW.out.size))
                  have YX := Aside0.mk (blk_below RX.out Y2.out)
                  have YG := Aside0.mk ((blk_cell (blk_below RG.out Y2.out) 0).trans rfl)
                  have y0 := (blk_cell YN.out 0).trans rfl
                  have y2 := (blk_cell YX.out 2).trans rfl
                  have y3 := (blk_cell YX.out 3).trans rfl
                  have y4 := (blk_cell YX.out 4).trans rfl
                  have y5 := (blk_cell YX.out 5).trans rfl
                  have y6 := (blk_cell YX.out 6).trans rfl
                  have y7 := (blk_cell YX.out 7).trans rfl
                  obtain ⟨rb, hrb⟩ : ∃ b, rul27 d.f2 ser 3 = b := ⟨_, rfl⟩
                  have HRB := Aside0.mk hrb
                  clear hrb
                  cases rb with
                  | false =>
                    have hr := srt_no (last := last) (ser := ser) i C5.out (HST.out.trans (HS1.out.trans (ru27_no 3 (by decide) (by unfold ru27; rw [← HDD.out, HRB.out]; rfl))))
                    go_wp2_with (go_at_call 98; refine (rule4_c _ _ _ _ _ _ _ _ _).mono ?_; rintro e w3 ⟨rfl, hb⟩; have hq : (decide ((d.f2.f5.length : Int) ≤ 4)) = false := HRB.out; rw [hq]; have HB9 := Aside0.mk (YW.out.trans (hb.mono YW.out.size)); clear hb hq)
                    go_ret
                    exact ⟨by first | rfl | (rw [hr]; rfl), HB0.out.trans (HB9.out.mono HB0.out.size)⟩
                  | true =>
                    have HWF := Aside0.mk (show (Lit.int .i64 d.f2.f0).wf = true by
                      have h1 := HSER.out
                      have h0 : (decide (1 ≤ d.f2.f0) && decide (d.f2.f0 ≤ ser)) = true := by
                        have h := HA2.out 0 (by omega); unfold ru27 at h; rw [← HDD.out, Bool.and_eq_true] at h; exact h.1
                      rw [Bool.and_eq_true] at h0
                      have h2 := of_decide_eq_true h0.1
                      have h3 := of_decide_eq_true h0.2
                      exact WalkArith.wf_i64 (by omega))
                    obtain ⟨bs, hbs⟩ : ∃ b, (sn27 ds i).contains d.f2.f0 = b := ⟨_, rfl⟩
                    have HBS := Aside0.mk hbs
                    clear hbs
                    cases bs with
                    | true =>
                      have hr := srt_no (last := last) (ser := ser) i C5.out (HST.out.trans (HS1.out.trans (ru27_no 3 (by decide) (by unfold ru27; rw [← HDD.out, HRB.out, HBS.out]; rfl))))
                      go_wp2_with (go_at_call 98; refine (rule4_c _ _ _ _ _ _ _ _ _).mono ?_; rintro e w3 ⟨rfl, hb⟩; have hq : (decide ((d.f2.f5.length : Int) ≤ 4)) = true := HRB.out; rw [hq]; have v2 := (blk_cell (blk_below YX.out hb) 2).trans rfl; have hlk := (RT.out.below (Y2.out.trans (hb.mono Y2.out.size))).look d.f2.f0 HWF.out; rw [HBS.out] at hlk; have HB9 := Aside0.mk (YW.out.trans (hb.mono YW.out.size)); clear hb hq)
                      go_ret
                      exact ⟨by first | rfl | (rw [hr]; rfl), HB0.out.trans (HB9.out.mono HB0.out.size)⟩
                    | false =>
                      go_wp2_with (go_at_call 98; refine (rule4_c _ _ _ _ _ _ _ _ _).mono ?_; rintro e w3 ⟨rfl, hb⟩; have hq : (decide ((d.f2.f5.length : Int) ≤ 4)) = true := HRB.out; rw [hq]; have v2 := (blk_cell (blk_below YX.out hb) 2).trans rfl; have hlk := (RT.out.below (Y2.out.trans (hb.mono Y2.out.size))).look d.f2.f0 HWF.out; rw [HBS.out] at hlk; have HB9 := Aside0.mk (Y2.out.trans (hb.mono Y2.out.size)); clear hb hq)
                      go_roundg k2
                      case measure => omega
                      case rel =>
                        refine ⟨4, by first | rfl | (simp; done), ⟨by have := HJ.out; omega⟩, ⟨fun q hq => ?_⟩, HB9⟩
                        by_cases e : q = 3
                        · subst e; unfold ru27; rw [← HDD.out, HRB.out, HBS.out]; rfl
                        · exact HA2.out q (by omega)
              · obtain rfl : j = 4 := by have := HJ.out; omega
                have v2 := (blk_cell (blk_below RX.out HB2.out) 2).trans rfl
                have hwf : (Lit.int .i64 d.f2.f0).wf = true := by
                  have h1 := HSER.out
                  have h := HA2.out 0 (by omega)
                  unfold ru27 at h
                  rw [← HDD.out, Bool.and_eq_true] at h
                  have h0 : (decide (1 ≤ d.f2.f0) && decide (d.f2.f0 ≤ ser)) = true := h.1
                  rw [Bool.and_eq_true] at h0
                  have h2 := of_decide_eq_true h0.1
                  have h3 := of_decide_eq_true h0.2
                  exact WalkArith.wf_i64 (by omega)
                obtain ⟨w9, hrun, hs9, hg9⟩ := (RT.out.below HB2.out).store (by have := HBIG.out; have := C5.out; unfold maxLen; omega) d.f2.f0 hwf
                have HS9 := Aside0.mk hs9
                have HB9 := Aside0.mk ((RW.out.trans (HB2.out.mono RW.out.size)).grown hg9 (Nat.le_trans RW.out.size HB2.out.size) (fun k hk => by cases hk; exact Nat.le_refl _))
                clear hs9 hg9 hwf c8
                go_wp2
                go_roundg k1
                case measure => omega
                case rel =>
                  refine ⟨i + 1, by first | rfl | exact congrArg _ (w1_of (by have := HBIG.out; have := C5.out; omega)), ⟨by have := HI.out; have := C5.out; omega⟩, ⟨fun q hq => ?_⟩, HB9, ⟨?_⟩⟩
                  · by_cases e : q = i
                    · subst e; exact HST.out.trans (HS1.out.trans (ru27_yes HA2.out))
                    · exact HA.out q (by omega)
                  · have h9 := HS9.out
                    have hu := HUS.out
                    rw [HDD.out] at hu h9
                    unfold sn27
                    rw [hu, if_pos rfl]
                    exact h9
        have e2b : (d.f0 == 2) = false := beq_eq_false_iff_ne.mpr e2
        have hr := srt_no (last := last) (ser := ser) i C5.out (HST.out.trans (st27_no (by rw [← HDD.out]; exact e0) (by rw [← HDD.out]; exact e3) (by rw [← HDD.out]; exact e1) (by rw [← HDD.out]; exact e2)))
        go_wp2
        go_ret
        exact ⟨by first | rfl | (rw [hr]; rfl), XX.out⟩
      · have c5b := decide_eq_false (p := (i : Int) < (ds.length : Int)) (by omega)
        obtain rfl : i = ds.length := by have := HI.out; omega
        have hr := srt_yes (by have := C0.out; omega) (by have := C1.out; omega) (by have := C2.out; omega) (by have := C3.out; omega) HA.out
        clear c5
        go_wp2
        go_ret
        exact ⟨by first | rfl | (rw [hr]; rfl), HB0.out.trans (HB.out.mono HB0.out.size)⟩
end Go.Proofs.Ytkmjboeabmmecaa.MAll
