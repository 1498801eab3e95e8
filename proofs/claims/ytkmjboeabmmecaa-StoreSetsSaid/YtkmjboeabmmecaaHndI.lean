/- Which stores are right, by the document: what its function comes to. Conditions: those of each lemma. -/
import Derived.Test.YtkmjboeabmmecaaMAllx2
import Derived.Test.YtkmjboeabmmecaaMAllx3
import Derived.Test.YtkmjboeabmmecaaHndE
import Derived.WalkMore
namespace Go.Proofs.Ytkmjboeabmmecaa.MAll
open Go.RowKit Go.Proofs.YtkmjboeabmmecaaW.PrintWords Go.Proofs.YtkmjboeabmmecaaW.PrintLast Go.Proofs.YtkmjboeabmmecaaW.PrintMore
attribute [local go_sem] max2_int min2_int max_two min_two max_three min_three max_four min_four
set_option linter.unusedVariables false
set_option linter.unusedSimpArgs false
attribute [local go_sem] Oper.semAt_some
open Go.Shelf Go.Proofs.Ytkmjboeabmmecaa
def right6.T16 : Bool × List (List Nat × List Nat) := (true, [([], []), ([0], [0]), ([], []), ([1, 2], [1, 2]), ([3], [3]), ([4], [4]), ([5, 5], [5]), ([6], [6]), ([7, 6], [6, 7]), ([6], [6]), ([8, 9, 6], [6, 8, 9]), ([10, 6], [6, 10]), ([11, 6], [6, 11]), ([12, 6], [6, 12]), ([6], [6]), ([14, 6], [6, 14]), ([13, 15, 6], [6, 13, 15]), ([6, 16], [6, 16])])
def right6.B16 : List Nat := [0, 1, 0, 7, 15, 31, 63, 127, 255, 127, 1023, 2047, 4095, 8191, 127, 16511, 65535, 131071]
theorem right6.tab16 : rtab .any (opsOf Try.f22 16) = right6.T16 := by kernel_rfl
theorem right6.bits16 : waitsOk right6.T16.2 right6.B16 = true := by kernel_rfl
def th6 (c : S84) : Bool := c.f0 == 1 || c.f0 == 2
def ok6 (o : S41) (ser : Int) : Bool := !(decide (o.f0 < 1)) && !(decide (o.f0 > ser)) && !(decide (o.f1 < 0)) && !(decide (o.f2 < 0)) && !(decide (o.f3 < -1)) && !(decide (o.f3 > 5)) && !(decide ((o.f5.length : Int) > 4))
def bl6 (o : S41) : Bool := o.f0 == 0 && o.f1 == 0 && o.f2 == 0 && o.f3 == 0 && !o.f4 && (o.f5.length : Int) == 0
def cl6 (cells : List S84) (i k : Nat) : Bool := th6 (rd_T84 cells (k : Int)) && (rd_T84 cells (k : Int)).f2.f0 == (rd_T84 cells (i : Int)).f2.f0
def rc6 (cells : List S84) (ser : Int) (i : Nat) : Bool := if th6 (rd_T84 cells (i : Int)) = true then ok6 (rd_T84 cells (i : Int)).f2 ser && (List.range i).all (fun k => !cl6 cells i k) else bl6 (rd_T84 cells (i : Int)).f2
def rgt6 (cells : List S84) (ser : Int) : Bool := (List.range cells.length).all (rc6 cells ser)
theorem rgt6_no {cells : List S84} {ser : Int} (i : Nat) (hi : i < cells.length) (h : rc6 cells ser i = false) : rgt6 cells ser = false := by
  unfold rgt6
  rw [List.all_eq_false]
  exact ⟨i, List.mem_range.mpr hi, by rw [h]; decide⟩
theorem rgt6_yes {cells : List S84} {ser : Int} (h : ∀ i, i < cells.length → rc6 cells ser i = true) : rgt6 cells ser = true := by
  unfold rgt6
  rw [List.all_eq_true]
  exact fun i hi => h i (List.mem_range.mp hi)
theorem there6 (c : S84) (A7 : Option Addr) (c7 : Nat) (w : World) (hC : Kd.C (Kd.int .i64) w A7 c.f2.f5.length c.f2.f5) (hc : c.f2.f5.length ≤ c7) :
    Calls Try.prog 60 #[.agg #[.int .i64 c.f0, .int .i64 c.f1, .int .i64 c.f2.f0, .int .i64 c.f2.f1, .int .i64 c.f2.f2, .int .i64 c.f2.f3, .bool c.f2.f4, .slice A7 c.f2.f5.length c7]] w fun e w' => e = .returned (.bool (th6 c)) ∧ Below w.heap.size w w' :=
  mortmainref06_there.calls _ _ _ _ _ _ _ _ _ _ (th6 c) w hC hc (by
    unfold mortmainref06_there.f th6
    by_cases e : c.f0 = 1
    · rw [if_pos e]; simp [e]
    · rw [if_neg e]; simp [e])
set_option maxRecDepth 100000 in
set_option maxHeartbeats 8000000 in
theorem right6_c (k : Nat) (A : Option Addr) (c : Nat) (cells : List S84) (last ser : Int) (w : World) (hC : Kd.C k84 w A cells.length cells) (hc : cells.length ≤ c) (hbig : cells.length ≤ 1000000) (p1 : List S120) (p2 : Int) (b : Bool) (hp : mortmainref06_Plain.f k cells last ser = some (p1, p2)) (hb : mortmainref03_Right.f k p1 p2 = some b) :
    Calls Try.prog 22 #[.agg #[.slice A cells.length c, .int .i64 last, .int .i64 ser]] w fun e w' => e = .returned (.bool (b && !(decide (ser < 0)) && rgt6 cells ser)) ∧ Below w.heap.size w w' := by
  obtain ⟨W0, hW0⟩ : ∃ W0, w.alloc (.cells #[.slice A cells.length c, .int .i64 last, .int .i64 ser] 37) = W0 := ⟨_, rfl⟩
  have HB0 := Aside0.mk (show Below w.heap.size w W0 by rw [← hW0]; exact (Below.refl w.heap.size w).alloc (Nat.le_refl _) _)
  have HZ := Aside0.mk (show W0.heap.size = w.heap.size + 1 by rw [← hW0]; simp)
  have B0 := Aside0.mk (show W0.heap[w.heap.size]? = some (.cells #[.slice A cells.length c, .int .i64 last, .int .i64 ser] 37 (0, 0)) by rw [← hW0]; exact blk_new w _)
  have HW := Aside0.mk hW0
  have HC := Aside0.mk (Kd.C_below hC HB0.out)
  have HL := Aside0.mk hc
  have HBIG := Aside0.mk hbig
  have HP := Aside0.mk hp
  have HR := Aside0.mk hb
  clear hC hc hbig hp hb hW0
  have z0 := (blk_cell B0.out 0).trans rfl
  have z1 := (blk_cell B0.out 1).trans rfl
  have z2 := (blk_cell B0.out 2).trans rfl
  go_enter Try.func22, Try.ntmps22
  go_upto_region 1 with (fail)
  rw [HW.out]
  cases b with
  | false =>
    go_wp2_with (first | (go_at_call 57; refine (mortmainref06_Plain.calls k _ _ cells last ser p1 p2 _ HC.out HL.out HP.out).mono ?_; rintro e W1 ⟨v0, rfl, hS, hb⟩; obtain ⟨A9, c9, rfl, hl9, hC9⟩ := Kd.R_reads hS; have HC9 := Aside0.mk hC9; have HL9 := Aside0.mk hl9; have HB1 := Aside0.mk (HB0.out.trans (hb.mono HB0.out.size)); clear hS hb hC9 hl9) | (go_at_call 59; refine (mortmainref03_Right.calls k _ _ p1 p2 false _ HC9.out HL9.out HR.out).mono ?_; rintro e W2 ⟨rfl, hb⟩; have HB2 := Aside0.mk (HB1.out.trans (hb.mono HB1.out.size)); clear hb))
    go_ret
    exact ⟨rfl, HB2.out⟩
  | true =>
    by_cases hs : ser < 0
    · have hs1 := decide_eq_true hs
      go_upto_region 2 with (first | (go_at_call 57; refine (mortmainref06_Plain.calls k _ _ cells last ser p1 p2 _ HC.out HL.out HP.out).mono ?_; rintro e W1 ⟨v0, rfl, hS, hb⟩; obtain ⟨A9, c9, rfl, hl9, hC9⟩ := Kd.R_reads hS; have HC9 := Aside0.mk hC9; have HL9 := Aside0.mk hl9; have HB1 := Aside0.mk (HB0.out.trans (hb.mono HB0.out.size)); have B1 := Aside0.mk (blk_below B0.out hb); clear hS hb hC9 hl9) | (go_at_call 59; refine (mortmainref03_Right.calls k _ _ p1 p2 true _ HC9.out HL9.out HR.out).mono ?_; rintro e W2 ⟨rfl, hb⟩; have HB2 := Aside0.mk (HB1.out.trans (hb.mono HB1.out.size)); have B2 := blk_below B1.out hb; have y2 := (blk_cell B2 2).trans rfl; clear hb B2))
      go_wp2
      go_ret
      exact ⟨by rw [hs1]; simp, HB2.out⟩
    · have hs1 := decide_eq_false hs
      go_upto_region 3 with (first | (go_at_call 57; refine (mortmainref06_Plain.calls k _ _ cells last ser p1 p2 _ HC.out HL.out HP.out).mono ?_; rintro e W1 ⟨v0, rfl, hS, hb⟩; obtain ⟨A9, c9, rfl, hl9, hC9⟩ := Kd.R_reads hS; have HC9 := Aside0.mk hC9; have HL9 := Aside0.mk hl9; have HB1 := Aside0.mk (HB0.out.trans (hb.mono HB0.out.size)); have HX1 := Aside0.mk hb; have B1 := Aside0.mk (blk_below B0.out hb); clear hS hb hC9 hl9) | (go_at_call 59; refine (mortmainref03_Right.calls k _ _ p1 p2 true _ HC9.out HL9.out HR.out).mono ?_; rintro e W2 ⟨rfl, hb⟩; have HB2 := Aside0.mk (HB1.out.trans (hb.mono HB1.out.size)); have HB3 := Aside0.mk (HX1.out.trans (hb.mono HX1.out.size)); have B2 := Aside0.mk (blk_below B1.out hb); have y2 := (blk_cell B2.out 2).trans rfl; clear hb))
      clear y2 z0 z1 z2 hs1
      go_wp2
      have HSN := Aside0.mk hs
      clear hs
      go_loopg [3] (cells.length + 1) (fun kq v3 w' => ∃ i : Nat, v3 = .int .i64 (i : Int) ∧ Aside0 (i ≤ cells.length ∧ kq + i = cells.length + 1) ∧ Aside0 (∀ j, j < i → rc6 cells ser j = true) ∧ Aside0 (Below W0.heap.size W0 w'))
      case atStart => exact ⟨0, by simp, ⟨by omega⟩, ⟨fun j hj => absurd hj (by omega)⟩, HB3⟩
      case round =>
        obtain ⟨i, rfl, HI, HA, HB⟩ := hrel
        cases gk with
        | zero => exact absurd HI.out (by omega)
        | succ k1 =>
          have B9 := Aside0.mk (blk_below B0.out HB.out)
          have y0 := (blk_cell B9.out 0).trans rfl
          have y1 := (blk_cell B9.out 1).trans rfl
          have y2 := (blk_cell B9.out 2).trans rfl
          by_cases c5 : i < cells.length
          · have hi0 : (0 : Int) ≤ (i : Int) := by omega
            have hi1 : (i : Int) < (cells.length : Int) := by omega
            have hC := Kd.C_below HC.out HB.out
            obtain ⟨ad, A7, c7, e7, hx0, hx1, hx2, hx3, hx4, hx5, hx6, hx7, hl7, hi7⟩ := at_T84 hC (i : Int) hi0 hi1
            cases e7
            rw [Int.toNat_natCast] at hx0 hx1 hx2 hx3 hx4 hx5 hx6 hx7
            have HC7 := Aside0.mk hi7
            have HL7 := Aside0.mk hl7
            have C5 := Aside0.mk c5
            clear hC hi7 hl7 c5
            have HBA := Aside0.mk ((HB.out.alloc HB.out.size (.cells #[.int .i64 (rd_T84 cells (i : Int)).f0, .int .i64 (rd_T84 cells (i : Int)).f1, .int .i64 (rd_T84 cells (i : Int)).f2.f0, .int .i64 (rd_T84 cells (i : Int)).f2.f1, .int .i64 (rd_T84 cells (i : Int)).f2.f2, .int .i64 (rd_T84 cells (i : Int)).f2.f3, .bool (rd_T84 cells (i : Int)).f2.f4, .slice A7 (rd_T84 cells (i : Int)).f2.f5.length c7] 84)).alloc (by have := HB.out.size; simp; omega) (.cells #[.int .i64 (rd_T84 cells (i : Int)).f2.f0, .int .i64 (rd_T84 cells (i : Int)).f2.f1, .int .i64 (rd_T84 cells (i : Int)).f2.f2, .int .i64 (rd_T84 cells (i : Int)).f2.f3, .bool (rd_T84 cells (i : Int)).f2.f4, .slice A7 (rd_T84 cells (i : Int)).f2.f5.length c7] 41))
            have hnew := blk_new (wr.alloc (.cells #[.int .i64 (rd_T84 cells (i : Int)).f0, .int .i64 (rd_T84 cells (i : Int)).f1, .int .i64 (rd_T84 cells (i : Int)).f2.f0, .int .i64 (rd_T84 cells (i : Int)).f2.f1, .int .i64 (rd_T84 cells (i : Int)).f2.f2, .int .i64 (rd_T84 cells (i : Int)).f2.f3, .bool (rd_T84 cells (i : Int)).f2.f4, .slice A7 (rd_T84 cells (i : Int)).f2.f5.length c7] 84)) (.cells #[.int .i64 (rd_T84 cells (i : Int)).f2.f0, .int .i64 (rd_T84 cells (i : Int)).f2.f1, .int .i64 (rd_T84 cells (i : Int)).f2.f2, .int .i64 (rd_T84 cells (i : Int)).f2.f3, .bool (rd_T84 cells (i : Int)).f2.f4, .slice A7 (rd_T84 cells (i : Int)).f2.f5.length c7] 41)
            rw [World.size_alloc] at hnew
            have HN := Aside0.mk hnew
            have HC8 := Aside0.mk (Kd.C_below HC7.out (((Below.refl wr.heap.size wr).alloc (Nat.le_refl _) (.cells #[.int .i64 (rd_T84 cells (i : Int)).f0, .int .i64 (rd_T84 cells (i : Int)).f1, .int .i64 (rd_T84 cells (i : Int)).f2.f0, .int .i64 (rd_T84 cells (i : Int)).f2.f1, .int .i64 (rd_T84 cells (i : Int)).f2.f2, .int .i64 (rd_T84 cells (i : Int)).f2.f3, .bool (rd_T84 cells (i : Int)).f2.f4, .slice A7 (rd_T84 cells (i : Int)).f2.f5.length c7] 84)).alloc (by simp) (.cells #[.int .i64 (rd_T84 cells (i : Int)).f2.f0, .int .i64 (rd_T84 cells (i : Int)).f2.f1, .int .i64 (rd_T84 cells (i : Int)).f2.f2, .int .i64 (rd_T84 cells (i : Int)).f2.f3, .bool (rd_T84 cells (i : Int)).f2.f4, .slice A7 (rd_T84 cells (i : Int)).f2.f5.length c7] 41)))
            clear hnew
            cases hth : th6 (rd_T84 cells (i : Int)) with
            | false =>
              have HBX := Aside0.mk (((Below.refl wr.heap.size wr).alloc (Nat.le_refl _) (.cells #[.int .i64 (rd_T84 cells (i : Int)).f0, .int .i64 (rd_T84 cells (i : Int)).f1, .int .i64 (rd_T84 cells (i : Int)).f2.f0, .int .i64 (rd_T84 cells (i : Int)).f2.f1, .int .i64 (rd_T84 cells (i : Int)).f2.f2, .int .i64 (rd_T84 cells (i : Int)).f2.f3, .bool (rd_T84 cells (i : Int)).f2.f4, .slice A7 (rd_T84 cells (i : Int)).f2.f5.length c7] 84)).alloc (by simp) (.cells #[.int .i64 (rd_T84 cells (i : Int)).f2.f0, .int .i64 (rd_T84 cells (i : Int)).f2.f1, .int .i64 (rd_T84 cells (i : Int)).f2.f2, .int .i64 (rd_T84 cells (i : Int)).f2.f3, .bool (rd_T84 cells (i : Int)).f2.f4, .slice A7 (rd_T84 cells (i : Int)).f2.f5.length c7] 41))
              go_upto_region 9 with (go_at_call 60; have hm := there6 (rd_T84 cells (i : Int)) A7 c7 _ HC8.out HL7.out; rw [hth] at hm; with_reducible refine hm.mono ?_; clear hm; rintro e W5 ⟨rfl, hb⟩; have B5 := blk_below HN.out hb; have HB5 := Aside0.mk (HBA.out.trans (hb.mono HBA.out.size)); have y0 := (blk_cell B5 0).trans rfl; have y1 := (blk_cell B5 1).trans rfl; have y2 := (blk_cell B5 2).trans rfl; have y3 := (blk_cell B5 3).trans rfl; have y4 := (blk_cell B5 4).trans rfl; have y5 := (blk_cell B5 5).trans rfl; have B6 := blk_below B9.out (HBX.out.trans (hb.mono HBX.out.size)); have x2 := (blk_cell B6 2).trans rfl; have x0 := (blk_cell B6 0).trans rfl; have B5 := Aside0.mk B5; have B6 := Aside0.mk B6; clear hb)
              by_cases e0 : ¬ (rd_T84 cells (i : Int)).f2.f0 = 0
              · have e0a : ((rd_T84 cells (i : Int)).f2.f0 == 0) = false := by simpa using e0
                have e0b : ((rd_T84 cells (i : Int)).f2.f0 != 0) = true := by simpa using e0
                have HF := Aside0.mk (show rc6 cells ser i = false by unfold rc6; rw [if_neg (by rw [hth]; decide)]; unfold bl6; simp [e0])
                go_wp2
                go_ret
                exact ⟨by rw [rgt6_no i C5.out (HF.out)]; simp, HB0.out.trans (HB5.out.mono (by have := HZ.out; omega))⟩
              · have e0z : (rd_T84 cells (i : Int)).f2.f0 = 0 := Decidable.not_not.mp e0
                have e0a : ((rd_T84 cells (i : Int)).f2.f0 == 0) = true := by simpa using e0z
                have e0b : ((rd_T84 cells (i : Int)).f2.f0 != 0) = false := by simp [e0z]
                clear e0z
                by_cases e1 : ¬ (rd_T84 cells (i : Int)).f2.f1 = 0
                · have e1a : ((rd_T84 cells (i : Int)).f2.f1 == 0) = false := by simpa using e1
                  have e1b : ((rd_T84 cells (i : Int)).f2.f1 != 0) = true := by simpa using e1
                  have HF := Aside0.mk (show rc6 cells ser i = false by unfold rc6; rw [if_neg (by rw [hth]; decide)]; unfold bl6; simp [e1])
                  go_wp2
                  go_ret
                  exact ⟨by rw [rgt6_no i C5.out (HF.out)]; simp, HB0.out.trans (HB5.out.mono (by have := HZ.out; omega))⟩
                · have e1z : (rd_T84 cells (i : Int)).f2.f1 = 0 := Decidable.not_not.mp e1
                  have e1a : ((rd_T84 cells (i : Int)).f2.f1 == 0) = true := by simpa using e1z
                  have e1b : ((rd_T84 cells (i : Int)).f2.f1 != 0) = false := by simp [e1z]
                  clear e1z
                  by_cases e2 : ¬ (rd_T84 cells (i : Int)).f2.f2 = 0
                  · have e2a : ((rd_T84 cells (i : Int)).f2.f2 == 0) = false := by simpa using e2
                    have e2b : ((rd_T84 cells (i : Int)).f2.f2 != 0) = true := by simpa using e2
                    have HF := Aside0.mk (show rc6 cells ser i = false by unfold rc6; rw [if_neg (by rw [hth]; decide)]; unfold bl6; simp [e2])
                    go_wp2
                    go_ret
                    exact ⟨by rw [rgt6_no i C5.out (HF.out)]; simp, HB0.out.trans (HB5.out.mono (by have := HZ.out; omega))⟩
                  · have e2z : (rd_T84 cells (i : Int)).f2.f2 = 0 := Decidable.not_not.mp e2
                    have e2a : ((rd_T84 cells (i : Int)).f2.f2 == 0) = true := by simpa using e2z
                    have e2b : ((rd_T84 cells (i : Int)).f2.f2 != 0) = false := by simp [e2z]
                    clear e2z
                    by_cases e3 : ¬ (rd_T84 cells (i : Int)).f2.f3 = 0
                    · have e3a : ((rd_T84 cells (i : Int)).f2.f3 == 0) = false := by simpa using e3
                      have e3b : ((rd_T84 cells (i : Int)).f2.f3 != 0) = true := by simpa using e3
                      have HF := Aside0.mk (show rc6 cells ser i = false by unfold rc6; rw [if_neg (by rw [hth]; decide)]; unfold bl6; simp [e3])
                      go_wp2
                      go_ret
                      exact ⟨by rw [rgt6_no i C5.out (HF.out)]; simp, HB0.out.trans (HB5.out.mono (by have := HZ.out; omega))⟩
                    · have e3z : (rd_T84 cells (i : Int)).f2.f3 = 0 := Decidable.not_not.mp e3
                      have e3a : ((rd_T84 cells (i : Int)).f2.f3 == 0) = true := by simpa using e3z
                      have e3b : ((rd_T84 cells (i : Int)).f2.f3 != 0) = false := by simp [e3z]
                      clear e3z
                      by_cases e4 : (rd_T84 cells (i : Int)).f2.f4 = true
                      · have e4a := e4
                        have HF := Aside0.mk (show rc6 cells ser i = false by unfold rc6; rw [if_neg (by rw [hth]; decide)]; unfold bl6; simp [e4])
                        go_wp2
                        go_ret
                        exact ⟨by rw [rgt6_no i C5.out (HF.out)]; simp, HB0.out.trans (HB5.out.mono (by have := HZ.out; omega))⟩
                      · have e4a : (rd_T84 cells (i : Int)).f2.f4 = false := by simpa using e4
                        by_cases e5 : ¬ (rd_T84 cells (i : Int)).f2.f5.length = 0
                        · have e5a : (((rd_T84 cells (i : Int)).f2.f5.length : Int) == 0) = false := by simp; simpa using e5
                          have e5b : (((rd_T84 cells (i : Int)).f2.f5.length : Int) != 0) = true := by simp; simpa using e5
                          have e5c : ((rd_T84 cells (i : Int)).f2.f5.length != 0) = true := by simpa using e5
                          have HF := Aside0.mk (show rc6 cells ser i = false by unfold rc6; rw [if_neg (by rw [hth]; decide)]; unfold bl6; simp [e5])
                          go_wp2
                          go_ret
                          exact ⟨by rw [rgt6_no i C5.out (HF.out)]; simp, HB0.out.trans (HB5.out.mono (by have := HZ.out; omega))⟩
                        · have e5z : (rd_T84 cells (i : Int)).f2.f5.length = 0 := Decidable.not_not.mp e5
                          have e5a : (((rd_T84 cells (i : Int)).f2.f5.length : Int) == 0) = true := by rw [e5z]; rfl
                          have e5b : (((rd_T84 cells (i : Int)).f2.f5.length : Int) != 0) = false := by rw [e5z]; rfl
                          have e5c : ((rd_T84 cells (i : Int)).f2.f5.length != 0) = false := by rw [e5z]; rfl
                          have HF := Aside0.mk (show rc6 cells ser i = true by unfold rc6; rw [if_neg (by rw [hth]; decide)]; unfold bl6; rw [e0a, e1a, e2a, e3a, e4a, e5a]; rfl)
                          go_wp2
                          go_roundg k1
                          case measure => omega
                          case rel => exact ⟨i + 1, by first | rfl | exact congrArg _ (w1_of (by have := HBIG.out; have := C5.out; omega)), ⟨by have := HI.out; have := C5.out; omega⟩, ⟨fun j hj => by rcases Nat.lt_succ_iff_lt_or_eq.mp hj with h | h; exact HA.out j h; rw [h]; exact HF.out⟩, HB5⟩
            | true =>
              have HBX := Aside0.mk (((Below.refl wr.heap.size wr).alloc (Nat.le_refl _) (.cells #[.int .i64 (rd_T84 cells (i : Int)).f0, .int .i64 (rd_T84 cells (i : Int)).f1, .int .i64 (rd_T84 cells (i : Int)).f2.f0, .int .i64 (rd_T84 cells (i : Int)).f2.f1, .int .i64 (rd_T84 cells (i : Int)).f2.f2, .int .i64 (rd_T84 cells (i : Int)).f2.f3, .bool (rd_T84 cells (i : Int)).f2.f4, .slice A7 (rd_T84 cells (i : Int)).f2.f5.length c7] 84)).alloc (by simp) (.cells #[.int .i64 (rd_T84 cells (i : Int)).f2.f0, .int .i64 (rd_T84 cells (i : Int)).f2.f1, .int .i64 (rd_T84 cells (i : Int)).f2.f2, .int .i64 (rd_T84 cells (i : Int)).f2.f3, .bool (rd_T84 cells (i : Int)).f2.f4, .slice A7 (rd_T84 cells (i : Int)).f2.f5.length c7] 41))
              go_upto_region 11 with (go_at_call 60; have hm := there6 (rd_T84 cells (i : Int)) A7 c7 _ HC8.out HL7.out; rw [hth] at hm; with_reducible refine hm.mono ?_; clear hm; rintro e W5 ⟨rfl, hb⟩; have B5 := blk_below HN.out hb; have HB5 := Aside0.mk (HBA.out.trans (hb.mono HBA.out.size)); have y0 := (blk_cell B5 0).trans rfl; have y1 := (blk_cell B5 1).trans rfl; have y2 := (blk_cell B5 2).trans rfl; have y3 := (blk_cell B5 3).trans rfl; have y4 := (blk_cell B5 4).trans rfl; have y5 := (blk_cell B5 5).trans rfl; have B6 := blk_below B9.out (HBX.out.trans (hb.mono HBX.out.size)); have x2 := (blk_cell B6 2).trans rfl; have x0 := (blk_cell B6 0).trans rfl; have B5 := Aside0.mk B5; have B6 := Aside0.mk B6; clear hb)
              by_cases e0 : (rd_T84 cells (i : Int)).f2.f0 < 1
              · have e0a : decide ((rd_T84 cells (i : Int)).f2.f0 < 1) = true := decide_eq_true e0
                have HF := Aside0.mk (show rc6 cells ser i = false by unfold rc6; rw [if_pos hth]; unfold ok6; simp only [gt_iff_lt]; simp [e0])
                go_wp2
                go_ret
                exact ⟨by rw [rgt6_no i C5.out (HF.out)]; simp, HB0.out.trans (HB5.out.mono (by have := HZ.out; omega))⟩
              · have e0a : decide ((rd_T84 cells (i : Int)).f2.f0 < 1) = false := decide_eq_false e0
                by_cases e1 : ser < (rd_T84 cells (i : Int)).f2.f0
                · have e1a : decide (ser < (rd_T84 cells (i : Int)).f2.f0) = true := decide_eq_true e1
                  have HF := Aside0.mk (show rc6 cells ser i = false by unfold rc6; rw [if_pos hth]; unfold ok6; simp only [gt_iff_lt]; simp [e1])
                  go_wp2
                  go_ret
                  exact ⟨by rw [rgt6_no i C5.out (HF.out)]; simp, HB0.out.trans (HB5.out.mono (by have := HZ.out; omega))⟩
                · have e1a : decide (ser < (rd_T84 cells (i : Int)).f2.f0) = false := decide_eq_false e1
                  by_cases e2 : (rd_T84 cells (i : Int)).f2.f1 < 0
                  · have e2a : decide ((rd_T84 cells (i : Int)).f2.f1 < 0) = true := decide_eq_true e2
                    have HF := Aside0.mk (show rc6 cells ser i = false by unfold rc6; rw [if_pos hth]; unfold ok6; simp only [gt_iff_lt]; simp [e2])
                    go_wp2
                    go_ret
                    exact ⟨by rw [rgt6_no i C5.out (HF.out)]; simp, HB0.out.trans (HB5.out.mono (by have := HZ.out; omega))⟩
                  · have e2a : decide ((rd_T84 cells (i : Int)).f2.f1 < 0) = false := decide_eq_false e2
                    by_cases e3 : (rd_T84 cells (i : Int)).f2.f2 < 0
                    · have e3a : decide ((rd_T84 cells (i : Int)).f2.f2 < 0) = true := decide_eq_true e3
                      have HF := Aside0.mk (show rc6 cells ser i = false by unfold rc6; rw [if_pos hth]; unfold ok6; simp only [gt_iff_lt]; simp [e3])
                      go_wp2
                      go_ret
                      exact ⟨by rw [rgt6_no i C5.out (HF.out)]; simp, HB0.out.trans (HB5.out.mono (by have := HZ.out; omega))⟩
                    · have e3a : decide ((rd_T84 cells (i : Int)).f2.f2 < 0) = false := decide_eq_false e3
                      by_cases e4 : (rd_T84 cells (i : Int)).f2.f3 < -1
                      · have e4a : decide ((rd_T84 cells (i : Int)).f2.f3 < -1) = true := decide_eq_true e4
                        have HF := Aside0.mk (show rc6 cells ser i = false by unfold rc6; rw [if_pos hth]; unfold ok6; simp only [gt_iff_lt]; simp [e4])
                        go_wp2
                        go_ret
                        exact ⟨by rw [rgt6_no i C5.out (HF.out)]; simp, HB0.out.trans (HB5.out.mono (by have := HZ.out; omega))⟩
                      · have e4a : decide ((rd_T84 cells (i : Int)).f2.f3 < -1) = false := decide_eq_false e4
                        by_cases e5 : 5 < (rd_T84 cells (i : Int)).f2.f3
                        · have e5a : decide (5 < (rd_T84 cells (i : Int)).f2.f3) = true := decide_eq_true e5
                          have HF := Aside0.mk (show rc6 cells ser i = false by unfold rc6; rw [if_pos hth]; unfold ok6; simp only [gt_iff_lt]; simp [e5])
                          go_wp2
                          go_ret
                          exact ⟨by rw [rgt6_no i C5.out (HF.out)]; simp, HB0.out.trans (HB5.out.mono (by have := HZ.out; omega))⟩
                        · have e5a : decide (5 < (rd_T84 cells (i : Int)).f2.f3) = false := decide_eq_false e5
                          by_cases e6 : 4 < ((rd_T84 cells (i : Int)).f2.f5.length : Int)
                          · have e6a : decide (4 < ((rd_T84 cells (i : Int)).f2.f5.length : Int)) = true := decide_eq_true e6
                            have e6b : decide (4 < (rd_T84 cells (i : Int)).f2.f5.length) = true := decide_eq_true (by omega)
                            have HF := Aside0.mk (show rc6 cells ser i = false by unfold rc6; rw [if_pos hth]; unfold ok6; simp only [gt_iff_lt]; simp [e6])
                            go_wp2
                            go_ret
                            exact ⟨by rw [rgt6_no i C5.out (HF.out)]; simp, HB0.out.trans (HB5.out.mono (by have := HZ.out; omega))⟩
                          · have e6a : decide (4 < ((rd_T84 cells (i : Int)).f2.f5.length : Int)) = false := decide_eq_false e6
                            have e6b : decide (4 < (rd_T84 cells (i : Int)).f2.f5.length) = false := decide_eq_false (by omega)
                            have HOK := Aside0.mk (show ok6 (rd_T84 cells (i : Int)).f2 ser = true by unfold ok6; simp only [gt_iff_lt]; rw [e0a, e1a, e2a, e3a, e4a, e5a, e6a]; rfl)
                            go_wp2
                            clear y0 y1 y2 y3 y4 y5 x0 x2 e0a e1a e2a e3a e4a e5a e6a e6b
                            obtain ⟨gb, hgb⟩ : ∃ g, g = wr.heap.size + 1 := ⟨_, rfl⟩
                            have B5o := B5.out
                            rw [← hgb] at B5o ⊢
                            have B5p := Aside0.mk B5o
                            clear B5o hgb B5 HN B6
                            go_loopg [6] (cells.length + 1) (fun kq v6 w' => ∃ j : Nat, v6 = .int .i64 (j : Int) ∧ Aside0 (j ≤ i ∧ kq + j = cells.length + 1) ∧ Aside0 (∀ t, t < j → cl6 cells i t = false) ∧ Aside0 (Below W0.heap.size W0 w') ∧ Aside0 (w'.heap[gb]? = some (.cells #[.int .i64 (rd_T84 cells (i : Int)).f2.f0, .int .i64 (rd_T84 cells (i : Int)).f2.f1, .int .i64 (rd_T84 cells (i : Int)).f2.f2, .int .i64 (rd_T84 cells (i : Int)).f2.f3, .bool (rd_T84 cells (i : Int)).f2.f4, .slice A7 (rd_T84 cells (i : Int)).f2.f5.length c7] 41 (0, 0))))
                            case atStart => exact ⟨0, by simp, ⟨by have := C5.out; omega⟩, ⟨fun t ht => absurd ht (by omega)⟩, HB5, B5p⟩
                            case round =>
                              obtain ⟨j, rfl, HJ, HT, HB7, B7⟩ := hrel
                              cases gk with
                              | zero => exact absurd HJ.out (by have := C5.out; omega)
                              | succ k2 =>
                                by_cases c6 : j < i
                                · have C6 := Aside0.mk c6
                                  have c6b := decide_eq_true (p := (j : Int) < (i : Int)) (by omega)
                                  have j0 : (0 : Int) ≤ (j : Int) := by omega
                                  have j1 : (j : Int) < (cells.length : Int) := by have := C5.out; omega
                                  obtain ⟨ad', A8, c8, e7, h0, h1, h2, h3, h4, h5, h6, h7, hl8, hi8⟩ := at_T84 (Kd.C_below HC.out HB7.out) (j : Int) j0 j1
                                  cases e7
                                  rw [Int.toNat_natCast] at h0 h1 h2 h3 h4 h5 h6 h7
                                  have q0 := (blk_cell (blk_below B0.out HB7.out) 0).trans rfl
                                  have y0 := (blk_cell B7.out 0).trans rfl
                                  have hm0 := fun w5 hC5 => there6 (rd_T84 cells (j : Int)) A8 c8 w5 hC5 hl8
                                  go_upto_region 16 with (fail)
                                  have HI8 := Aside0.mk hi8
                                  clear hi8
                                  cases hthj : th6 (rd_T84 cells (j : Int)) with
                                  | false =>
                                    have hmth := hm0 wr.drew (Kd.C_drew HI8.out)
                                    rw [hthj] at hmth
                                    refine start_ (n := 18) (S := fun w' => w'.cell? ⟨w.heap.size, 0, none⟩ = some (.slice (some ad) cells.length c) ∧ w'.cell? (ad.add (j * 8)) = some (.int .i64 (rd_T84 cells (j : Int)).f0) ∧ w'.cell? ⟨(ad.add (j * 8)).block, (ad.add (j * 8)).off + 1, none⟩ = some (.int .i64 (rd_T84 cells (j : Int)).f1) ∧ w'.cell? ⟨(ad.add (j * 8)).block, (ad.add (j * 8)).off + 2, none⟩ = some (.int .i64 (rd_T84 cells (j : Int)).f2.f0) ∧ w'.cell? ⟨(ad.add (j * 8)).block, (ad.add (j * 8)).off + 3, none⟩ = some (.int .i64 (rd_T84 cells (j : Int)).f2.f1) ∧ w'.cell? ⟨(ad.add (j * 8)).block, (ad.add (j * 8)).off + 4, none⟩ = some (.int .i64 (rd_T84 cells (j : Int)).f2.f2) ∧ w'.cell? ⟨(ad.add (j * 8)).block, (ad.add (j * 8)).off + 5, none⟩ = some (.int .i64 (rd_T84 cells (j : Int)).f2.f3) ∧ w'.cell? ⟨(ad.add (j * 8)).block, (ad.add (j * 8)).off + 6, none⟩ = some (.bool (rd_T84 cells (j : Int)).f2.f4) ∧ w'.cell? ⟨(ad.add (j * 8)).block, (ad.add (j * 8)).off + 7, none⟩ = some (.slice A8 (rd_T84 cells (j : Int)).f2.f5.length c8) ∧ w'.cell? ⟨gb, 0, none⟩ = some (.int .i64 (rd_T84 cells (i : Int)).f2.f0)) (ds := []) (bA 18 0) (by kernel_rfl) rfl rfl ⟨q0, h0, h1, h2, h3, h4, h5, h6, h7, y0⟩ (fun hHeld => ?_)
                                    refine with_tabW right6.tab16 right6.bits16 (fun HT_ HW_ => ?_)
                                    refine pure_ (i := 0) (N := some 102) (v := ?_) (a' := ?_) (bA 18 1) rfl rfl (an_ HT_.out) (fun _ _ _ h => h) (Or.inl ⟨by rfl, ?_⟩) ?_ ?_
                                    rotate_left
                                    · intro w'; go_simp; with_reducible rfl
                                    rotate_left
                                    · simp only [Act.put, q1, q2, q3, i64_w, i32_w]
                                      rfl
                                    refine take_ (i := 1) (N := some 103) (v := ?_) (a' := ?_) (bA 18 3) rfl rfl (tw_ HT_.out HW_.out) (fun _ _ _ h => h) (Or.inl ⟨by rfl, ?_⟩) hHeld ?_ ?_
                                    rotate_left
                                    · rintro w' ⟨s0, s1, s2, s3, s4, s5, s6, s7, s8, s9⟩; go_simp; with_reducible rfl
                                    rotate_left
                                    · simp only [Act.put, q1, q2, q3, i64_w, i32_w]
                                      rfl
                                    refine pure_ (i := 2) (N := some 104) (v := ?_) (a' := ?_) (bA 18 7) rfl rfl (an_ HT_.out) (fun _ _ _ h => h) (Or.inl ⟨by rfl, ?_⟩) ?_ ?_
                                    rotate_left
                                    · intro w'; go_simp; with_reducible rfl
                                    rotate_left
                                    · simp only [Act.put, q1, q2, q3, i64_w, i32_w]
                                      rfl
                                    refine pure_ (i := 3) (N := some 105) (v := ?_) (a' := ?_) (bA 18 15) rfl rfl (an_ HT_.out) (fun _ _ _ h => h) (Or.inl ⟨by rfl, ?_⟩) ?_ ?_
                                    rotate_left
                                    · intro w'; go_simp; with_reducible rfl
                                    rotate_left
                                    · simp only [Act.put, q1, q2, q3, i64_w, i32_w]
                                      rfl
                                    refine take_ (i := 4) (N := some 106) (v := ?_) (a' := ?_) (bA 18 31) rfl rfl (tw_ HT_.out HW_.out) (fun _ _ _ h => h) (Or.inl ⟨by rfl, ?_⟩) hHeld ?_ ?_
                                    rotate_left
                                    · rintro w' ⟨s0, s1, s2, s3, s4, s5, s6, s7, s8, s9⟩; go_simp; with_reducible rfl
                                    rotate_left
                                    · simp only [Act.put, q1, q2, q3, i64_w, i32_w]
                                      rfl
                                    refine one_ (i := 5) (N := some 107) (bA 18 63) rfl rfl (one_of HT_.out (by kernel_rfl)) (by decide) (fun K hK => ?_)
                                    refine goes_ Try.func60 (by kernel_rfl) rfl #[.agg #[.int .i64 (rd_T84 cells (j : Int)).f0, .int .i64 (rd_T84 cells (j : Int)).f1, .int .i64 (rd_T84 cells (j : Int)).f2.f0, .int .i64 (rd_T84 cells (j : Int)).f2.f1, .int .i64 (rd_T84 cells (j : Int)).f2.f2, .int .i64 (rd_T84 cells (j : Int)).f2.f3, .bool (rd_T84 cells (j : Int)).f2.f4, .slice A8 (rd_T84 cells (j : Int)).f2.f5.length c8]] (by rfl) rfl rfl (by (try simp only [List.map_toArray, List.map_cons, List.map_nil]); first | done | rfl) ?_
                                    with_reducible refine (hmth).mono ?_
                                    rintro e W6 ⟨rfl, hb⟩
                                    refine ⟨_, rfl, ?_⟩
                                    have hbb := hb
                                    replace q0 := (hb.cell (World.block_lt_of_cell? _ _ q0)).trans q0
                                    replace h0 := (hb.cell (World.block_lt_of_cell? _ _ h0)).trans h0
                                    replace h1 := (hb.cell (World.block_lt_of_cell? _ _ h1)).trans h1
                                    replace h2 := (hb.cell (World.block_lt_of_cell? _ _ h2)).trans h2
                                    replace h3 := (hb.cell (World.block_lt_of_cell? _ _ h3)).trans h3
                                    replace h4 := (hb.cell (World.block_lt_of_cell? _ _ h4)).trans h4
                                    replace h5 := (hb.cell (World.block_lt_of_cell? _ _ h5)).trans h5
                                    replace h6 := (hb.cell (World.block_lt_of_cell? _ _ h6)).trans h6
                                    replace h7 := (hb.cell (World.block_lt_of_cell? _ _ h7)).trans h7
                                    replace y0 := (hb.cell (World.block_lt_of_cell? _ _ y0)).trans y0
                                    refine hK.out _ _ ⟨q0, h0, h1, h2, h3, h4, h5, h6, h7, y0⟩ (fun hHeld => ?_)
                                    clear hK K
                                    refine norm_ (a' := ?_) ?_ ?_
                                    rotate_left
                                    · show Act.put _ (some 107) _ = _
                                      simp only [Act.put, q1, q2, q3, i64_w, i32_w]
                                      rfl
                                    refine pure_ (i := 6) (N := some 108) (v := ?_) (a' := ?_) (bA 18 127) rfl rfl (an_ HT_.out) (fun _ _ _ h => h) (Or.inl ⟨by rfl, ?_⟩) ?_ ?_
                                    rotate_left
                                    · intro w'; go_simp; with_reducible rfl
                                    rotate_left
                                    · simp only [Act.put, q1, q2, q3, i64_w, i32_w]
                                      rfl
                                    refine pure_ (i := 7) (N := some 109) (v := undef) (a' := ?_) (bA 18 255) rfl rfl (an_ HT_.out) (fun _ _ _ h => h) (Or.inr ⟨by rfl, rfl⟩) ?_ ?_
                                    rotate_left
                                    · simp only [Act.put, q1, q2, q3, i64_w, i32_w]
                                      rfl
                                    refine take_ (i := 8) (N := some 110) (v := undef) (a' := ?_) (bA 18 511) rfl rfl (tw_ HT_.out HW_.out) (fun _ _ _ h => h) (Or.inr ⟨by rfl, rfl⟩) hHeld ?_ ?_
                                    rotate_left
                                    · simp only [Act.put, q1, q2, q3, i64_w, i32_w]
                                      rfl
                                    refine pure_ (i := 9) (N := some 111) (v := undef) (a' := ?_) (bA 18 1023) rfl rfl (an_ HT_.out) (fun _ _ _ h => h) (Or.inr ⟨by rfl, rfl⟩) ?_ ?_
                                    rotate_left
                                    · simp only [Act.put, q1, q2, q3, i64_w, i32_w]
                                      rfl
                                    refine pure_ (i := 10) (N := some 112) (v := undef) (a' := ?_) (bA 18 2047) rfl rfl (an_ HT_.out) (fun _ _ _ h => h) (Or.inr ⟨by rfl, rfl⟩) ?_ ?_
                                    rotate_left
                                    · simp only [Act.put, q1, q2, q3, i64_w, i32_w]
                                      rfl
                                    refine pure_ (i := 11) (N := some 113) (v := undef) (a' := ?_) (bA 18 4095) rfl rfl (an_ HT_.out) (fun _ _ _ h => h) (Or.inr ⟨by rfl, rfl⟩) ?_ ?_
                                    rotate_left
                                    · simp only [Act.put, q1, q2, q3, i64_w, i32_w]
                                      rfl
                                    refine pure_ (i := 12) (N := some 114) (v := undef) (a' := ?_) (bA 18 8191) rfl rfl (an_ HT_.out) (fun _ _ _ h => h) (Or.inr ⟨by rfl, rfl⟩) ?_ ?_
                                    rotate_left
                                    · simp only [Act.put, q1, q2, q3, i64_w, i32_w]
                                      rfl
                                    refine take_ (i := 13) (N := some 115) (v := undef) (a' := ?_) (bA 18 16383) rfl rfl (tw_ HT_.out HW_.out) (fun _ _ _ h => h) (Or.inr ⟨by rfl, rfl⟩) hHeld ?_ ?_
                                    rotate_left
                                    · simp only [Act.put, q1, q2, q3, i64_w, i32_w]
                                      rfl
                                    refine pure_ (i := 14) (N := some 116) (v := undef) (a' := ?_) (bA 18 32767) rfl rfl (an_ HT_.out) (fun _ _ _ h => h) (Or.inr ⟨by rfl, rfl⟩) ?_ ?_
                                    rotate_left
                                    · simp only [Act.put, q1, q2, q3, i64_w, i32_w]
                                      rfl
                                    refine take_ (i := 15) (N := some 117) (v := undef) (a' := ?_) (bA 18 65535) rfl rfl (tw_ HT_.out HW_.out) (fun _ _ _ h => h) (Or.inr ⟨by rfl, rfl⟩) hHeld ?_ ?_
                                    rotate_left
                                    · simp only [Act.put, q1, q2, q3, i64_w, i32_w]
                                      rfl
                                    refine pure_ (i := 16) (N := some 118) (v := undef) (a' := ?_) (bA 18 131071) rfl rfl (an_ HT_.out) (fun _ _ _ h => h) (Or.inr ⟨by rfl, rfl⟩) ?_ ?_
                                    rotate_left
                                    · simp only [Act.put, q1, q2, q3, i64_w, i32_w]
                                      rfl
                                    refine pure_ (i := 17) (N := some 119) (v := ?_) (a' := ?_) (bA 18 262143) rfl rfl (an_ HT_.out) (fun _ _ _ h => h) (Or.inl ⟨by rfl, ?_⟩) ?_ ?_
                                    rotate_left
                                    · intro w'; go_simp; with_reducible rfl
                                    rotate_left
                                    · simp only [Act.put, q1, q2, q3, i64_w, i32_w]
                                      rfl
                                    refine done_ (done_of HT_.out (by kernel_rfl)) ?_
                                    have HBB := Aside0.mk ((below_drew1 (Below.refl _ _)).trans hbb)
                                    have HF := Aside0.mk (show cl6 cells i j = false by unfold cl6; rw [hthj]; rfl)
                                    go_wp2
                                    go_roundg k2
                                    case measure => omega
                                    case rel => exact ⟨j + 1, by first | rfl | exact congrArg _ (w1_of (by have := HBIG.out; have := C5.out; have := C6.out; omega)), ⟨by have := HJ.out; have := C6.out; omega⟩, ⟨fun t ht => by rcases Nat.lt_succ_iff_lt_or_eq.mp ht with h | h; exact HT.out t h; rw [h]; exact HF.out⟩, ⟨HB7.out.trans (HBB.out.mono HB7.out.size)⟩, ⟨blk_below B7.out HBB.out⟩⟩
                                  | true =>
                                    by_cases es : (rd_T84 cells (j : Int)).f2.f0 = (rd_T84 cells (i : Int)).f2.f0
                                    · have es1 : ((rd_T84 cells (j : Int)).f2.f0 == (rd_T84 cells (i : Int)).f2.f0) = true := by simpa using es
                                      clear es
                                      have hmth := hm0 wr.drew (Kd.C_drew HI8.out)
                                      rw [hthj] at hmth
                                      refine start_ (n := 18) (S := fun w' => w'.cell? ⟨w.heap.size, 0, none⟩ = some (.slice (some ad) cells.length c) ∧ w'.cell? (ad.add (j * 8)) = some (.int .i64 (rd_T84 cells (j : Int)).f0) ∧ w'.cell? ⟨(ad.add (j * 8)).block, (ad.add (j * 8)).off + 1, none⟩ = some (.int .i64 (rd_T84 cells (j : Int)).f1) ∧ w'.cell? ⟨(ad.add (j * 8)).block, (ad.add (j * 8)).off + 2, none⟩ = some (.int .i64 (rd_T84 cells (j : Int)).f2.f0) ∧ w'.cell? ⟨(ad.add (j * 8)).block, (ad.add (j * 8)).off + 3, none⟩ = some (.int .i64 (rd_T84 cells (j : Int)).f2.f1) ∧ w'.cell? ⟨(ad.add (j * 8)).block, (ad.add (j * 8)).off + 4, none⟩ = some (.int .i64 (rd_T84 cells (j : Int)).f2.f2) ∧ w'.cell? ⟨(ad.add (j * 8)).block, (ad.add (j * 8)).off + 5, none⟩ = some (.int .i64 (rd_T84 cells (j : Int)).f2.f3) ∧ w'.cell? ⟨(ad.add (j * 8)).block, (ad.add (j * 8)).off + 6, none⟩ = some (.bool (rd_T84 cells (j : Int)).f2.f4) ∧ w'.cell? ⟨(ad.add (j * 8)).block, (ad.add (j * 8)).off + 7, none⟩ = some (.slice A8 (rd_T84 cells (j : Int)).f2.f5.length c8) ∧ w'.cell? ⟨gb, 0, none⟩ = some (.int .i64 (rd_T84 cells (i : Int)).f2.f0)) (ds := []) (bA 18 0) (by kernel_rfl) rfl rfl ⟨q0, h0, h1, h2, h3, h4, h5, h6, h7, y0⟩ (fun hHeld => ?_)
                                      refine with_tabW right6.tab16 right6.bits16 (fun HT_ HW_ => ?_)
                                      refine pure_ (i := 0) (N := some 102) (v := ?_) (a' := ?_) (bA 18 1) rfl rfl (an_ HT_.out) (fun _ _ _ h => h) (Or.inl ⟨by rfl, ?_⟩) ?_ ?_
                                      rotate_left
                                      · intro w'; go_simp; with_reducible rfl
                                      rotate_left
                                      · simp only [Act.put, q1, q2, q3, i64_w, i32_w]
                                        rfl
                                      refine take_ (i := 1) (N := some 103) (v := ?_) (a' := ?_) (bA 18 3) rfl rfl (tw_ HT_.out HW_.out) (fun _ _ _ h => h) (Or.inl ⟨by rfl, ?_⟩) hHeld ?_ ?_
                                      rotate_left
                                      · rintro w' ⟨s0, s1, s2, s3, s4, s5, s6, s7, s8, s9⟩; go_simp; with_reducible rfl
                                      rotate_left
                                      · simp only [Act.put, q1, q2, q3, i64_w, i32_w]
                                        rfl
                                      refine pure_ (i := 2) (N := some 104) (v := ?_) (a' := ?_) (bA 18 7) rfl rfl (an_ HT_.out) (fun _ _ _ h => h) (Or.inl ⟨by rfl, ?_⟩) ?_ ?_
                                      rotate_left
                                      · intro w'; go_simp; with_reducible rfl
                                      rotate_left
                                      · simp only [Act.put, q1, q2, q3, i64_w, i32_w]
                                        rfl
                                      refine pure_ (i := 3) (N := some 105) (v := ?_) (a' := ?_) (bA 18 15) rfl rfl (an_ HT_.out) (fun _ _ _ h => h) (Or.inl ⟨by rfl, ?_⟩) ?_ ?_
                                      rotate_left
                                      · intro w'; go_simp; with_reducible rfl
                                      rotate_left
                                      · simp only [Act.put, q1, q2, q3, i64_w, i32_w]
                                        rfl
                                      refine take_ (i := 4) (N := some 106) (v := ?_) (a' := ?_) (bA 18 31) rfl rfl (tw_ HT_.out HW_.out) (fun _ _ _ h => h) (Or.inl ⟨by rfl, ?_⟩) hHeld ?_ ?_
                                      rotate_left
                                      · rintro w' ⟨s0, s1, s2, s3, s4, s5, s6, s7, s8, s9⟩; go_simp; with_reducible rfl
                                      rotate_left
                                      · simp only [Act.put, q1, q2, q3, i64_w, i32_w]
                                        rfl
                                      refine one_ (i := 5) (N := some 107) (bA 18 63) rfl rfl (one_of HT_.out (by kernel_rfl)) (by decide) (fun K hK => ?_)
                                      refine goes_ Try.func60 (by kernel_rfl) rfl #[.agg #[.int .i64 (rd_T84 cells (j : Int)).f0, .int .i64 (rd_T84 cells (j : Int)).f1, .int .i64 (rd_T84 cells (j : Int)).f2.f0, .int .i64 (rd_T84 cells (j : Int)).f2.f1, .int .i64 (rd_T84 cells (j : Int)).f2.f2, .int .i64 (rd_T84 cells (j : Int)).f2.f3, .bool (rd_T84 cells (j : Int)).f2.f4, .slice A8 (rd_T84 cells (j : Int)).f2.f5.length c8]] (by rfl) rfl rfl (by (try simp only [List.map_toArray, List.map_cons, List.map_nil]); first | done | rfl) ?_
                                      with_reducible refine (hmth).mono ?_
                                      rintro e W6 ⟨rfl, hb⟩
                                      refine ⟨_, rfl, ?_⟩
                                      have hbb := hb
                                      replace q0 := (hb.cell (World.block_lt_of_cell? _ _ q0)).trans q0
                                      replace h0 := (hb.cell (World.block_lt_of_cell? _ _ h0)).trans h0
                                      replace h1 := (hb.cell (World.block_lt_of_cell? _ _ h1)).trans h1
                                      replace h2 := (hb.cell (World.block_lt_of_cell? _ _ h2)).trans h2
                                      replace h3 := (hb.cell (World.block_lt_of_cell? _ _ h3)).trans h3
                                      replace h4 := (hb.cell (World.block_lt_of_cell? _ _ h4)).trans h4
                                      replace h5 := (hb.cell (World.block_lt_of_cell? _ _ h5)).trans h5
                                      replace h6 := (hb.cell (World.block_lt_of_cell? _ _ h6)).trans h6
                                      replace h7 := (hb.cell (World.block_lt_of_cell? _ _ h7)).trans h7
                                      replace y0 := (hb.cell (World.block_lt_of_cell? _ _ y0)).trans y0
                                      refine hK.out _ _ ⟨q0, h0, h1, h2, h3, h4, h5, h6, h7, y0⟩ (fun hHeld => ?_)
                                      clear hK K
                                      refine norm_ (a' := ?_) ?_ ?_
                                      rotate_left
                                      · show Act.put _ (some 107) _ = _
                                        simp only [Act.put, q1, q2, q3, i64_w, i32_w]
                                        rfl
                                      refine pure_ (i := 6) (N := some 108) (v := ?_) (a' := ?_) (bA 18 127) rfl rfl (an_ HT_.out) (fun _ _ _ h => h) (Or.inl ⟨by rfl, ?_⟩) ?_ ?_
                                      rotate_left
                                      · intro w'; go_simp; with_reducible rfl
                                      rotate_left
                                      · simp only [Act.put, q1, q2, q3, i64_w, i32_w]
                                        rfl
                                      refine pure_ (i := 7) (N := some 109) (v := ?_) (a' := ?_) (bA 18 255) rfl rfl (an_ HT_.out) (fun _ _ _ h => h) (Or.inl ⟨by rfl, ?_⟩) ?_ ?_
                                      rotate_left
                                      · intro w'; go_simp; with_reducible rfl
                                      rotate_left
                                      · simp only [Act.put, q1, q2, q3, i64_w, i32_w]
                                        rfl
                                      refine take_ (i := 8) (N := some 110) (v := ?_) (a' := ?_) (bA 18 511) rfl rfl (tw_ HT_.out HW_.out) (fun _ _ _ h => h) (Or.inl ⟨by rfl, ?_⟩) hHeld ?_ ?_
                                      rotate_left
                                      · rintro w' ⟨s0, s1, s2, s3, s4, s5, s6, s7, s8, s9⟩; go_simp; with_reducible rfl
                                      rotate_left
                                      · simp only [Act.put, q1, q2, q3, i64_w, i32_w]
                                        rfl
                                      refine pure_ (i := 9) (N := some 111) (v := ?_) (a' := ?_) (bA 18 1023) rfl rfl (an_ HT_.out) (fun _ _ _ h => h) (Or.inl ⟨by rfl, ?_⟩) ?_ ?_
                                      rotate_left
                                      · intro w'; go_simp; with_reducible rfl
                                      rotate_left
                                      · simp only [Act.put, q1, q2, q3, i64_w, i32_w]
                                        rfl
                                      refine pure_ (i := 10) (N := some 112) (v := ?_) (a' := ?_) (bA 18 2047) rfl rfl (an_ HT_.out) (fun _ _ _ h => h) (Or.inl ⟨by rfl, ?_⟩) ?_ ?_
                                      rotate_left
                                      · intro w'; go_simp; with_reducible rfl
                                      rotate_left
                                      · simp only [Act.put, q1, q2, q3, i64_w, i32_w]
                                        rfl
                                      refine pure_ (i := 11) (N := some 113) (v := ?_) (a' := ?_) (bA 18 4095) rfl rfl (an_ HT_.out) (fun _ _ _ h => h) (Or.inl ⟨by rfl, ?_⟩) ?_ ?_
                                      rotate_left
                                      · intro w'; go_simp; with_reducible rfl
                                      rotate_left
                                      · simp only [Act.put, q1, q2, q3, i64_w, i32_w]
                                        rfl
                                      refine pure_ (i := 12) (N := some 114) (v := ?_) (a' := ?_) (bA 18 8191) rfl rfl (an_ HT_.out) (fun _ _ _ h => h) (Or.inl ⟨by rfl, ?_⟩) ?_ ?_
                                      rotate_left
                                      · intro w'; go_simp; with_reducible rfl
                                      rotate_left
                                      · simp only [Act.put, q1, q2, q3, i64_w, i32_w]
                                        rfl
                                      refine take_ (i := 13) (N := some 115) (v := ?_) (a' := ?_) (bA 18 16383) rfl rfl (tw_ HT_.out HW_.out) (fun _ _ _ h => h) (Or.inl ⟨by rfl, ?_⟩) hHeld ?_ ?_
                                      rotate_left
                                      · rintro w' ⟨s0, s1, s2, s3, s4, s5, s6, s7, s8, s9⟩; go_simp; with_reducible rfl
                                      rotate_left
                                      · simp only [Act.put, q1, q2, q3, i64_w, i32_w]
                                        rfl
                                      refine pure_ (i := 14) (N := some 116) (v := ?_) (a' := ?_) (bA 18 32767) rfl rfl (an_ HT_.out) (fun _ _ _ h => h) (Or.inl ⟨by rfl, ?_⟩) ?_ ?_
                                      rotate_left
                                      · intro w'; go_simp; with_reducible rfl
                                      rotate_left
                                      · simp only [Act.put, q1, q2, q3, i64_w, i32_w]
                                        rfl
                                      refine take_ (i := 15) (N := some 117) (v := ?_) (a' := ?_) (bA 18 65535) rfl rfl (tw_ HT_.out HW_.out) (fun _ _ _ h => h) (Or.inl ⟨by rfl, ?_⟩) hHeld ?_ ?_
                                      rotate_left
                                      · rintro w' ⟨s0, s1, s2, s3, s4, s5, s6, s7, s8, s9⟩; go_simp; with_reducible rfl
                                      rotate_left
                                      · simp only [Act.put, q1, q2, q3, i64_w, i32_w]
                                        rfl
                                      refine pure_ (i := 16) (N := some 118) (v := ?_) (a' := ?_) (bA 18 131071) rfl rfl (an_ HT_.out) (fun _ _ _ h => h) (Or.inl ⟨by rfl, ?_⟩) ?_ ?_
                                      rotate_left
                                      · intro w'; go_simp; with_reducible rfl
                                      rotate_left
                                      · simp only [Act.put, q1, q2, q3, i64_w, i32_w]
                                        rfl
                                      refine pure_ (i := 17) (N := some 119) (v := ?_) (a' := ?_) (bA 18 262143) rfl rfl (an_ HT_.out) (fun _ _ _ h => h) (Or.inl ⟨by rfl, ?_⟩) ?_ ?_
                                      rotate_left
                                      · intro w'; go_simp; with_reducible rfl
                                      rotate_left
                                      · simp only [Act.put, q1, q2, q3, i64_w, i32_w]
                                        rfl
                                      refine done_ (done_of HT_.out (by kernel_rfl)) ?_
                                      have HBB := Aside0.mk ((below_drew1 (Below.refl _ _)).trans hbb)
                                      have HF := Aside0.mk (show rc6 cells ser i = false by unfold rc6; rw [if_pos hth, HOK.out, Bool.true_and, List.all_eq_false]; exact ⟨j, List.mem_range.mpr C6.out, by unfold cl6; rw [hthj, es1]; decide⟩)
                                      go_wp2
                                      go_ret
                                      exact ⟨by rw [rgt6_no i C5.out (HF.out)]; simp, HB0.out.trans ((HB7.out.trans (HBB.out.mono HB7.out.size)).mono (by have := HZ.out; omega))⟩
                                    · have es1 : ((rd_T84 cells (j : Int)).f2.f0 == (rd_T84 cells (i : Int)).f2.f0) = false := by simpa using es
                                      clear es
                                      have hmth := hm0 wr.drew (Kd.C_drew HI8.out)
                                      rw [hthj] at hmth
                                      refine start_ (n := 18) (S := fun w' => w'.cell? ⟨w.heap.size, 0, none⟩ = some (.slice (some ad) cells.length c) ∧ w'.cell? (ad.add (j * 8)) = some (.int .i64 (rd_T84 cells (j : Int)).f0) ∧ w'.cell? ⟨(ad.add (j * 8)).block, (ad.add (j * 8)).off + 1, none⟩ = some (.int .i64 (rd_T84 cells (j : Int)).f1) ∧ w'.cell? ⟨(ad.add (j * 8)).block, (ad.add (j * 8)).off + 2, none⟩ = some (.int .i64 (rd_T84 cells (j : Int)).f2.f0) ∧ w'.cell? ⟨(ad.add (j * 8)).block, (ad.add (j * 8)).off + 3, none⟩ = some (.int .i64 (rd_T84 cells (j : Int)).f2.f1) ∧ w'.cell? ⟨(ad.add (j * 8)).block, (ad.add (j * 8)).off + 4, none⟩ = some (.int .i64 (rd_T84 cells (j : Int)).f2.f2) ∧ w'.cell? ⟨(ad.add (j * 8)).block, (ad.add (j * 8)).off + 5, none⟩ = some (.int .i64 (rd_T84 cells (j : Int)).f2.f3) ∧ w'.cell? ⟨(ad.add (j * 8)).block, (ad.add (j * 8)).off + 6, none⟩ = some (.bool (rd_T84 cells (j : Int)).f2.f4) ∧ w'.cell? ⟨(ad.add (j * 8)).block, (ad.add (j * 8)).off + 7, none⟩ = some (.slice A8 (rd_T84 cells (j : Int)).f2.f5.length c8) ∧ w'.cell? ⟨gb, 0, none⟩ = some (.int .i64 (rd_T84 cells (i : Int)).f2.f0)) (ds := []) (bA 18 0) (by kernel_rfl) rfl rfl ⟨q0, h0, h1, h2, h3, h4, h5, h6, h7, y0⟩ (fun hHeld => ?_)
                                      refine with_tabW right6.tab16 right6.bits16 (fun HT_ HW_ => ?_)
                                      refine pure_ (i := 0) (N := some 102) (v := ?_) (a' := ?_) (bA 18 1) rfl rfl (an_ HT_.out) (fun _ _ _ h => h) (Or.inl ⟨by rfl, ?_⟩) ?_ ?_
                                      rotate_left
                                      · intro w'; go_simp; with_reducible rfl
                                      rotate_left
                                      · simp only [Act.put, q1, q2, q3, i64_w, i32_w]
                                        rfl
                                      refine take_ (i := 1) (N := some 103) (v := ?_) (a' := ?_) (bA 18 3) rfl rfl (tw_ HT_.out HW_.out) (fun _ _ _ h => h) (Or.inl ⟨by rfl, ?_⟩) hHeld ?_ ?_
                                      rotate_left
                                      · rintro w' ⟨s0, s1, s2, s3, s4, s5, s6, s7, s8, s9⟩; go_simp; with_reducible rfl
                                      rotate_left
                                      · simp only [Act.put, q1, q2, q3, i64_w, i32_w]
                                        rfl
                                      refine pure_ (i := 2) (N := some 104) (v := ?_) (a' := ?_) (bA 18 7) rfl rfl (an_ HT_.out) (fun _ _ _ h => h) (Or.inl ⟨by rfl, ?_⟩) ?_ ?_
                                      rotate_left
                                      · intro w'; go_simp; with_reducible rfl
                                      rotate_left
                                      · simp only [Act.put, q1, q2, q3, i64_w, i32_w]
                                        rfl
                                      refine pure_ (i := 3) (N := some 105) (v := ?_) (a' := ?_) (bA 18 15) rfl rfl (an_ HT_.out) (fun _ _ _ h => h) (Or.inl ⟨by rfl, ?_⟩) ?_ ?_
                                      rotate_left
                                      · intro w'; go_simp; with_reducible rfl
                                      rotate_left
                                      · simp only [Act.put, q1, q2, q3, i64_w, i32_w]
                                        rfl
                                      refine take_ (i := 4) (N := some 106) (v := ?_) (a' := ?_) (bA 18 31) rfl rfl (tw_ HT_.out HW_.out) (fun _ _ _ h => h) (Or.inl ⟨by rfl, ?_⟩) hHeld ?_ ?_
                                      rotate_left
                                      · rintro w' ⟨s0, s1, s2, s3, s4, s5, s6, s7, s8, s9⟩; go_simp; with_reducible rfl
                                      rotate_left
                                      · simp only [Act.put, q1, q2, q3, i64_w, i32_w]
                                        rfl
                                      refine one_ (i := 5) (N := some 107) (bA 18 63) rfl rfl (one_of HT_.out (by kernel_rfl)) (by decide) (fun K hK => ?_)
                                      refine goes_ Try.func60 (by kernel_rfl) rfl #[.agg #[.int .i64 (rd_T84 cells (j : Int)).f0, .int .i64 (rd_T84 cells (j : Int)).f1, .int .i64 (rd_T84 cells (j : Int)).f2.f0, .int .i64 (rd_T84 cells (j : Int)).f2.f1, .int .i64 (rd_T84 cells (j : Int)).f2.f2, .int .i64 (rd_T84 cells (j : Int)).f2.f3, .bool (rd_T84 cells (j : Int)).f2.f4, .slice A8 (rd_T84 cells (j : Int)).f2.f5.length c8]] (by rfl) rfl rfl (by (try simp only [List.map_toArray, List.map_cons, List.map_nil]); first | done | rfl) ?_
                                      with_reducible refine (hmth).mono ?_
                                      rintro e W6 ⟨rfl, hb⟩
                                      refine ⟨_, rfl, ?_⟩
                                      have hbb := hb
                                      replace q0 := (hb.cell (World.block_lt_of_cell? _ _ q0)).trans q0
                                      replace h0 := (hb.cell (World.block_lt_of_cell? _ _ h0)).trans h0
                                      replace h1 := (hb.cell (World.block_lt_of_cell? _ _ h1)).trans h1
                                      replace h2 := (hb.cell (World.block_lt_of_cell? _ _ h2)).trans h2
                                      replace h3 := (hb.cell (World.block_lt_of_cell? _ _ h3)).trans h3
                                      replace h4 := (hb.cell (World.block_lt_of_cell? _ _ h4)).trans h4
                                      replace h5 := (hb.cell (World.block_lt_of_cell? _ _ h5)).trans h5
                                      replace h6 := (hb.cell (World.block_lt_of_cell? _ _ h6)).trans h6
                                      replace h7 := (hb.cell (World.block_lt_of_cell? _ _ h7)).trans h7
                                      replace y0 := (hb.cell (World.block_lt_of_cell? _ _ y0)).trans y0
                                      refine hK.out _ _ ⟨q0, h0, h1, h2, h3, h4, h5, h6, h7, y0⟩ (fun hHeld => ?_)
                                      clear hK K
                                      refine norm_ (a' := ?_) ?_ ?_
                                      rotate_left
                                      · show Act.put _ (some 107) _ = _
                                        simp only [Act.put, q1, q2, q3, i64_w, i32_w]
                                        rfl
                                      refine pure_ (i := 6) (N := some 108) (v := ?_) (a' := ?_) (bA 18 127) rfl rfl (an_ HT_.out) (fun _ _ _ h => h) (Or.inl ⟨by rfl, ?_⟩) ?_ ?_
                                      rotate_left
                                      · intro w'; go_simp; with_reducible rfl
                                      rotate_left
                                      · simp only [Act.put, q1, q2, q3, i64_w, i32_w]
                                        rfl
                                      refine pure_ (i := 7) (N := some 109) (v := ?_) (a' := ?_) (bA 18 255) rfl rfl (an_ HT_.out) (fun _ _ _ h => h) (Or.inl ⟨by rfl, ?_⟩) ?_ ?_
                                      rotate_left
                                      · intro w'; go_simp; with_reducible rfl
                                      rotate_left
                                      · simp only [Act.put, q1, q2, q3, i64_w, i32_w]
                                        rfl
                                      refine take_ (i := 8) (N := some 110) (v := ?_) (a' := ?_) (bA 18 511) rfl rfl (tw_ HT_.out HW_.out) (fun _ _ _ h => h) (Or.inl ⟨by rfl, ?_⟩) hHeld ?_ ?_
                                      rotate_left
                                      · rintro w' ⟨s0, s1, s2, s3, s4, s5, s6, s7, s8, s9⟩; go_simp; with_reducible rfl
                                      rotate_left
                                      · simp only [Act.put, q1, q2, q3, i64_w, i32_w]
                                        rfl
                                      refine pure_ (i := 9) (N := some 111) (v := ?_) (a' := ?_) (bA 18 1023) rfl rfl (an_ HT_.out) (fun _ _ _ h => h) (Or.inl ⟨by rfl, ?_⟩) ?_ ?_
                                      rotate_left
                                      · intro w'; go_simp; with_reducible rfl
                                      rotate_left
                                      · simp only [Act.put, q1, q2, q3, i64_w, i32_w]
                                        rfl
                                      refine pure_ (i := 10) (N := some 112) (v := ?_) (a' := ?_) (bA 18 2047) rfl rfl (an_ HT_.out) (fun _ _ _ h => h) (Or.inl ⟨by rfl, ?_⟩) ?_ ?_
                                      rotate_left
                                      · intro w'; go_simp; with_reducible rfl
                                      rotate_left
                                      · simp only [Act.put, q1, q2, q3, i64_w, i32_w]
                                        rfl
                                      refine pure_ (i := 11) (N := some 113) (v := ?_) (a' := ?_) (bA 18 4095) rfl rfl (an_ HT_.out) (fun _ _ _ h => h) (Or.inl ⟨by rfl, ?_⟩) ?_ ?_
                                      rotate_left
                                      · intro w'; go_simp; with_reducible rfl
                                      rotate_left
                                      · simp only [Act.put, q1, q2, q3, i64_w, i32_w]
                                        rfl
                                      refine pure_ (i := 12) (N := some 114) (v := ?_) (a' := ?_) (bA 18 8191) rfl rfl (an_ HT_.out) (fun _ _ _ h => h) (Or.inl ⟨by rfl, ?_⟩) ?_ ?_
                                      rotate_left
                                      · intro w'; go_simp; with_reducible rfl
                                      rotate_left
                                      · simp only [Act.put, q1, q2, q3, i64_w, i32_w]
                                        rfl
                                      refine take_ (i := 13) (N := some 115) (v := ?_) (a' := ?_) (bA 18 16383) rfl rfl (tw_ HT_.out HW_.out) (fun _ _ _ h => h) (Or.inl ⟨by rfl, ?_⟩) hHeld ?_ ?_
                                      rotate_left
                                      · rintro w' ⟨s0, s1, s2, s3, s4, s5, s6, s7, s8, s9⟩; go_simp; with_reducible rfl
                                      rotate_left
                                      · simp only [Act.put, q1, q2, q3, i64_w, i32_w]
                                        rfl
                                      refine pure_ (i := 14) (N := some 116) (v := ?_) (a' := ?_) (bA 18 32767) rfl rfl (an_ HT_.out) (fun _ _ _ h => h) (Or.inl ⟨by rfl, ?_⟩) ?_ ?_
                                      rotate_left
                                      · intro w'; go_simp; with_reducible rfl
                                      rotate_left
                                      · simp only [Act.put, q1, q2, q3, i64_w, i32_w]
                                        rfl
                                      refine take_ (i := 15) (N := some 117) (v := ?_) (a' := ?_) (bA 18 65535) rfl rfl (tw_ HT_.out HW_.out) (fun _ _ _ h => h) (Or.inl ⟨by rfl, ?_⟩) hHeld ?_ ?_
                                      rotate_left
                                      · rintro w' ⟨s0, s1, s2, s3, s4, s5, s6, s7, s8, s9⟩; go_simp; with_reducible rfl
                                      rotate_left
                                      · simp only [Act.put, q1, q2, q3, i64_w, i32_w]
                                        rfl
                                      refine pure_ (i := 16) (N := some 118) (v := ?_) (a' := ?_) (bA 18 131071) rfl rfl (an_ HT_.out) (fun _ _ _ h => h) (Or.inl ⟨by rfl, ?_⟩) ?_ ?_
                                      rotate_left
                                      · intro w'; go_simp; with_reducible rfl
                                      rotate_left
                                      · simp only [Act.put, q1, q2, q3, i64_w, i32_w]
                                        rfl
                                      refine pure_ (i := 17) (N := some 119) (v := ?_) (a' := ?_) (bA 18 262143) rfl rfl (an_ HT_.out) (fun _ _ _ h => h) (Or.inl ⟨by rfl, ?_⟩) ?_ ?_
                                      rotate_left
                                      · intro w'; go_simp; with_reducible rfl
                                      rotate_left
                                      · simp only [Act.put, q1, q2, q3, i64_w, i32_w]
                                        rfl
                                      refine done_ (done_of HT_.out (by kernel_rfl)) ?_
                                      have HBB := Aside0.mk ((below_drew1 (Below.refl _ _)).trans hbb)
                                      have HF := Aside0.mk (show cl6 cells i j = false by unfold cl6; rw [hthj, es1]; rfl)
                                      go_wp2
                                      go_roundg k2
                                      case measure => omega
                                      case rel => exact ⟨j + 1, by first | rfl | exact congrArg _ (w1_of (by have := HBIG.out; have := C5.out; have := C6.out; omega)), ⟨by have := HJ.out; have := C6.out; omega⟩, ⟨fun t ht => by rcases Nat.lt_succ_iff_lt_or_eq.mp ht with h | h; exact HT.out t h; rw [h]; exact HF.out⟩, ⟨HB7.out.trans (HBB.out.mono HB7.out.size)⟩, ⟨blk_below B7.out HBB.out⟩⟩
                                · obtain rfl : j = i := by have := HJ.out; omega
                                  clear c6
                                  have HF := Aside0.mk (show rc6 cells ser j = true by unfold rc6; rw [if_pos hth, HOK.out, Bool.true_and, List.all_eq_true]; exact fun t ht => by rw [HT.out t (List.mem_range.mp ht)]; rfl)
                                  go_wp2
                                  go_roundg k1
                                  case measure => omega
                                  case rel => exact ⟨j + 1, by first | rfl | exact congrArg _ (w1_of (by have := HBIG.out; have := C5.out; omega)), ⟨by have := HI.out; have := C5.out; omega⟩, ⟨fun t ht => by rcases Nat.lt_succ_iff_lt_or_eq.mp ht with h | h; exact HA.out t h; rw [h]; exact HF.out⟩, HB7⟩
          · obtain rfl : i = cells.length := by have := HI.out; omega
            clear c5
            go_wp2
            go_ret
            exact ⟨by rw [rgt6_yes HA.out, decide_eq_false (by have := HSN.out; omega)]; rfl, HB0.out.trans (HB.out.mono (by have := HZ.out; omega))⟩
end Go.Proofs.Ytkmjboeabmmecaa.MAll
