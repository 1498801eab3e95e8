/- Who is closed. Conditions: those of each lemma. -/
import Derived.Test.YtkmjboeabmmecaaMAllx22
namespace Go.Proofs.Ytkmjboeabmmecaa.MAll
open Go.RowKit Go.Proofs.YtkmjboeabmmecaaW.PrintWords Go.Proofs.YtkmjboeabmmecaaW.PrintLast Go.Proofs.YtkmjboeabmmecaaW.PrintMore
attribute [local go_sem] max2_int min2_int max_two min_two max_three min_three max_four min_four
set_option linter.unusedVariables false
set_option linter.unusedSimpArgs false
attribute [local go_sem] Oper.semAt_some
open Go.Shelf Go.Proofs.Ytkmjboeabmmecaa
theorem idx_l (l : List Int) (x : Int) (hl : l.length ≤ 1000000) : ∀ (n j k : Nat), l.length - j = n → j ≤ l.length → n < k → ∃ r, slices_Index_int_int.l0 k l x (l.length : Int) (j : Int) = some r ∧ decide (r ≥ 0) = (l.drop j).contains x := by
  intro n
  induction n with
  | zero =>
    intro j k hn hj hk
    obtain ⟨k, rfl⟩ : ∃ m, k = m + 1 := ⟨k - 1, by omega⟩
    refine ⟨-1, by rw [slices_Index_int_int.l0, if_neg (by omega)], ?_⟩
    rw [List.drop_eq_nil_of_le (by omega)]; rfl
  | succ n ih =>
    intro j k hn hj hk
    obtain ⟨k, rfl⟩ : ∃ m, k = m + 1 := ⟨k - 1, by omega⟩
    have hj1 : j < l.length := by omega
    have hrd : rd l (j : Int) = l[j] := by unfold rd; rw [Int.toNat_natCast, List.getD_eq_getElem?_getD, List.getElem?_eq_getElem hj1]; rfl
    rw [slices_Index_int_int.l0, if_pos (by omega), if_pos (by omega), if_pos (by omega), hrd, List.drop_eq_getElem_cons hj1, List.contains_cons]
    by_cases e : x = l[j]
    · rw [if_pos e]
      exact ⟨(j : Int), rfl, by rw [← e]; simp⟩
    · rw [if_neg e]
      obtain ⟨r, h1, h2⟩ := ih (j + 1) k (by omega) (by omega) (by omega)
      refine ⟨r, ?_, by rw [h2]; simp [e]⟩
      rw [w1_of (by omega)]; exact h1
theorem contains_f (l : List Int) (x : Int) (hl : l.length ≤ 1000000) (k : Nat) (hk : l.length < k) : slices_Contains_int_int.f k l x = some (l.contains x) := by
  obtain ⟨r, h1, h2⟩ := idx_l l x hl l.length 0 k (by omega) (by omega) hk
  unfold slices_Contains_int_int.f slices_Index_int_int.f
  have h1' : slices_Index_int_int.l0 k l x (l.length : Int) 0 = some r := h1
  rw [h1']
  show some (decide (r ≥ 0)) = _
  rw [h2, List.drop_zero]
theorem drawn_below {w w' : World} (h : Drawn0 w w') : Below w.heap.size w w' := by
  obtain ⟨n, rfl⟩ := h.out
  exact pw_below_drewN (Below.refl _ _) n
set_option maxRecDepth 100000 in
set_option maxHeartbeats 2000000 in
theorem clo87_c {W : World} {b3 : Nat} {Al : Option Addr} {cl : Nat} {l : List Int} (x : Int) (hb : W.heap[b3]? = some (.cells #[.slice Al l.length cl] 27 (0, 0))) (hC : Kd.C (Kd.int .i64) W Al l.length l) (hc : l.length ≤ cl) (hl : l.length ≤ 1000000) :
    Calls Try.prog 87 #[.int .i64 x, .pointer (some ⟨b3, 0, none⟩)] W fun e W' => e = .returned (.bool (!(l.contains x))) ∧ Below W.heap.size W W' := by
  have c0 := (blk_cell hb 0).trans rfl
  obtain ⟨bc, hbc⟩ : ∃ b, l.contains x = b := ⟨_, rfl⟩
  have HN := Aside0.mk (contains_f l x hl (l.length + 1) (by omega))
  have HC := Aside0.mk hC
  have HL := Aside0.mk hc
  rw [hbc] at HN ⊢
  clear hC hc hl hb hbc
  go_enter Try.func87, Try.ntmps87
  go_wp2_with (go_at_call 84; refine (slices_Contains_int_int.calls _ Al cl l x bc _ HC.out HL.out HN.out).mono ?_; rintro e w1 ⟨rfl, hd⟩; have HD := Aside0.mk (drawn_below hd); clear hd)
  go_ret
  exact ⟨rfl, HD.out⟩
set_option maxRecDepth 100000 in
set_option maxHeartbeats 4000000 in
theorem idxf_c {W : World} {b3 : Nat} {Al : Option Addr} {cl : Nat} {l : List Int} {As : Option Addr} {cs : Nat} {s : List Int} (hb : W.heap[b3]? = some (.cells #[.slice Al l.length cl] 27 (0, 0))) (hC : Kd.C (Kd.int .i64) W Al l.length l) (hc : l.length ≤ cl) (hl : l.length ≤ 1000000) (hS : Kd.C (Kd.int .i64) W As s.length s) (hs : s.length ≤ 1000000) :
    Calls Try.prog 117 #[.slice As s.length cs, .func (.func 87) #[] #[.pointer (some ⟨b3, 0, none⟩)]] W fun e W' => ∃ r : Int, e = .returned (.int .i64 r) ∧ decide (r ≥ 0) = s.any (fun h => !l.contains h) ∧ Below W.heap.size W W' := by
  have HBX := Aside0.mk hb
  have HC := Aside0.mk hC
  have HCL := Aside0.mk hc
  have HL := Aside0.mk hl
  have HS := Aside0.mk hS
  have HSL := Aside0.mk hs
  clear hb hC hc hl hS hs
  go_enter Try.func117, Try.ntmps117
  go_wp2
  go_loopg [8] (s.length + 1) (fun kq v8 w' => ∃ j : Nat, v8 = .int .i64 (j : Int) ∧ Aside0 (j ≤ s.length ∧ kq + j = s.length + 1) ∧ Aside0 ((s.take j).any (fun h => !l.contains h) = false) ∧ Aside0 (Below W.heap.size W w'))
  case atStart => exact ⟨0, by simp, ⟨by omega⟩, ⟨rfl⟩, ⟨Below.refl _ _⟩⟩
  case round =>
    obtain ⟨j, rfl, HJ, HA, HB⟩ := hrel
    cases gk with
    | zero => exact absurd HJ.out (by omega)
    | succ k1 =>
      by_cases c7 : j < s.length
      · have c7b := decide_eq_true (p := (j : Int) < (s.length : Int)) (by omega)
        have hj0 : (0 : Int) ≤ (j : Int) := by omega
        have hj1 : (j : Int) < (s.length : Int) := by omega
        obtain ⟨ad, e7, hx⟩ := Kd.at_int (Kd.C_below HS.out HB.out) (j : Int) hj0 hj1
        cases e7
        rw [Int.toNat_natCast] at hx
        replace hj0 := eq_true hj0
        replace hj1 := eq_true hj1
        obtain ⟨x, hxx⟩ : ∃ x, x = s[j] := ⟨_, rfl⟩
        have hrd : rd s (j : Int) = s[j] := by unfold rd; rw [Int.toNat_natCast, List.getD_eq_getElem?_getD, List.getElem?_eq_getElem c7]; rfl
        have HTK := Aside0.mk (show s.take (j + 1) = s.take j ++ [x] by rw [hxx]; exact List.take_succ_eq_append_getElem c7)
        have HDR := Aside0.mk (show s.drop j = x :: s.drop (j + 1) by rw [hxx]; exact List.drop_eq_getElem_cons c7)
        rw [hrd, ← hxx] at hx
        have C7 := Aside0.mk c7
        obtain ⟨bc, hbc⟩ : ∃ b, l.contains x = b := ⟨_, rfl⟩
        have HBC := Aside0.mk hbc
        have HCA := Aside0.mk (clo87_c x (blk_below HBX.out HB.out) (Kd.C_below HC.out HB.out) HCL.out HL.out)
        rw [hbc] at HCA
        clear hrd hxx hbc c7
        cases bc with
        | true =>
          go_wp2_with (go_at_call 87; refine HCA.out.mono ?_; rintro e w3 ⟨rfl, hb⟩; have HB3 := Aside0.mk (HB.out.trans (hb.mono HB.out.size)); clear hb)
          go_roundg k1
          case measure => omega
          case rel => exact ⟨j + 1, by first | rfl | exact congrArg _ (w1_of (by have := HSL.out; have := C7.out; omega)), ⟨by have := HJ.out; have := C7.out; omega⟩, ⟨by rw [HTK.out, List.any_append, HA.out]; simp only [List.any_cons, List.any_nil, HBC.out]; rfl⟩, HB3⟩
        | false =>
          go_wp2_with (go_at_call 87; refine HCA.out.mono ?_; rintro e w3 ⟨rfl, hb⟩; have HB3 := Aside0.mk (HB.out.trans (hb.mono HB.out.size)); clear hb)
          go_ret
          refine ⟨_, rfl, ?_, HB3.out⟩
          rw [decide_eq_true (by omega)]
          have h9 : s.any (fun h => !l.contains h) = ((s.take j).any (fun h => !l.contains h) || (s.drop j).any (fun h => !l.contains h)) := by rw [← List.any_append, List.take_append_drop]
          have h8 : s.any (fun h => !l.contains h) = true := by rw [h9, HDR.out, List.any_cons, HBC.out]; simp
          first | exact h8.symm | simpa using h8.symm | simpa using h8
      · have c7b := decide_eq_false (p := (j : Int) < (s.length : Int)) (by omega)
        obtain rfl : j = s.length := by have := HJ.out; omega
        have h8 := HA.out
        rw [List.take_length] at h8
        have H8 := Aside0.mk h8
        clear c7 h8
        go_wp2
        go_ret
        refine ⟨_, rfl, ?_, HB.out⟩
        have h8 := H8.out
        rw [decide_eq_false (by omega)]
        first | exact h8.symm | simpa using h8.symm | simpa using h8
set_option maxRecDepth 100000 in
set_option maxHeartbeats 4000000 in
theorem contf_c {W : World} {b3 : Nat} {Al : Option Addr} {cl : Nat} {l : List Int} {As : Option Addr} {cs : Nat} {s : List Int} (hb : W.heap[b3]? = some (.cells #[.slice Al l.length cl] 27 (0, 0))) (hC : Kd.C (Kd.int .i64) W Al l.length l) (hc : l.length ≤ cl) (hl : l.length ≤ 1000000) (hS : Kd.C (Kd.int .i64) W As s.length s) (hs : s.length ≤ 1000000) :
    Calls Try.prog 86 #[.slice As s.length cs, .func (.func 87) #[] #[.pointer (some ⟨b3, 0, none⟩)]] W fun e W' => e = .returned (.bool (s.any (fun h => !l.contains h))) ∧ Below W.heap.size W W' := by
  have HT := Aside0.mk (idxf_c (cs := cs) hb hC hc hl hS hs)
  obtain ⟨bb, hbb⟩ : ∃ b, s.any (fun h => !l.contains h) = b := ⟨_, rfl⟩
  rw [hbb] at HT ⊢
  clear hb hC hc hl hS hs hbb
  go_enter Try.func86, Try.ntmps86
  go_wp2_with (go_at_call 117; refine HT.out.mono ?_; rintro e w3 ⟨r, rfl, hr, hb⟩; have HB3 := Aside0.mk hb; have HR := Aside0.mk hr; clear hb hr)
  go_ret
  exact ⟨by rw [← HR.out]; rfl, HB3.out⟩
set_option maxRecDepth 100000 in
set_option maxHeartbeats 4000000 in
theorem closed_c (k : Nat) {W : World} {A : Option Addr} {c : Nat} {ds : List S82} {last ser : Int} {Al : Option Addr} {cl : Nat} {l : List Int} (hr0 : Kd.C k82 W A ds.length ds) (hc0 : ds.length ≤ c) (hC : Kd.C (Kd.int .i64) W Al l.length l) (hc : l.length ≤ cl) (hl : l.length ≤ 1000000) (r : List Int) (hr : r.length ≤ 1000000) (hf : reach_From.f k ds last ser l = some r) :
    Calls Try.prog 50 #[.agg #[.slice A ds.length c, .int .i64 last, .int .i64 ser], .slice Al l.length cl] W fun e W' => e = .returned (.bool (r.all (fun h => l.contains h))) ∧ Below W.heap.size W W' := by
  obtain ⟨W0, hW0⟩ : ∃ W0, (W.alloc (.cells #[.slice A ds.length c, .int .i64 last, .int .i64 ser] 26)).alloc (.cells #[.slice Al l.length cl] 27) = W0 := ⟨_, rfl⟩
  have HB0 := Aside0.mk (show Below W.heap.size W W0 by rw [← hW0]; exact ((Below.refl W.heap.size W).alloc (Nat.le_refl _) _).alloc (by simp) _)
  have B0 := Aside0.mk (show W0.heap[W.heap.size]? = some (.cells #[.slice A ds.length c, .int .i64 last, .int .i64 ser] 26 (0, 0)) by rw [← hW0]; exact blk_alloc (blk_new W _) _)
  have B1 := Aside0.mk (show W0.heap[W.heap.size + 1]? = some (.cells #[.slice Al l.length cl] 27 (0, 0)) by rw [← hW0]; have h := blk_new (W.alloc (.cells #[.slice A ds.length c, .int .i64 last, .int .i64 ser] 26)) (.cells #[.slice Al l.length cl] 27); rw [World.size_alloc] at h; exact h)
  have HW := Aside0.mk hW0
  have HT := Aside0.mk (reach_From.calls k A c ds last ser Al cl l r W0 (Kd.C_below hr0 HB0.out) hc0 (Kd.C_below hC HB0.out) hc hf)
  have HC := Aside0.mk (Kd.C_below hC HB0.out)
  have HCL := Aside0.mk hc
  have HL := Aside0.mk hl
  have HRL := Aside0.mk hr
  have s0 := (blk_cell B0.out 0).trans rfl
  have s1 := (blk_cell B0.out 1).trans rfl
  have s2 := (blk_cell B0.out 2).trans rfl
  have t0 := (blk_cell B1.out 0).trans rfl
  have hnot : (r.all (fun h => l.contains h)) = !(r.any (fun h => !l.contains h)) := by
    rw [Bool.eq_iff_iff, Bool.not_eq_true', ← Bool.not_eq_true, List.all_eq_true, List.any_eq_true]
    constructor
    · rintro h ⟨x, hx, h2⟩; rw [h x hx] at h2; cases h2
    · intro h x hx
      cases e : l.contains x with
      | true => rfl
      | false => exact absurd ⟨x, hx, by rw [e]; rfl⟩ h
  rw [hnot]
  obtain ⟨bb, hbb⟩ : ∃ b, r.any (fun h => !l.contains h) = b := ⟨_, rfl⟩
  have HBB := Aside0.mk hbb
  rw [hbb]
  clear hr0 hc0 hC hc hl hr hf hW0 hnot hbb
  go_enter Try.func50, Try.ntmps50
  go_upto_region 1 with (fail)
  rw [HW.out]
  go_wp2_with (first | (go_at_call 44; refine HT.out.mono ?_; rintro e w3 ⟨v0, rfl, ho, hb⟩; obtain ⟨A3, c3, rfl, hl3, hC3⟩ := Kd.R_reads ho; have HB3 := Aside0.mk hb; have HC3 := Aside0.mk hC3; clear hb ho hC3) | (go_at_call 86; refine (contf_c (cs := c3) (blk_below B1.out HB3.out) (Kd.C_below HC.out HB3.out) HCL.out HL.out HC3.out HRL.out).mono ?_; rintro e w4 ⟨rfl, hb⟩; rw [HBB.out]; have HB4 := Aside0.mk (HB3.out.trans (hb.mono HB3.out.size)); clear hb))
  go_ret
  exact ⟨rfl, HB0.out.trans (HB4.out.mono HB0.out.size)⟩
end Go.Proofs.Ytkmjboeabmmecaa.MAll
