/- The functions that the law reaches in plain Lean, and that the calls come to what these say. No condition. (By wip/myprint.py, this session's program over the kit's print.) -/
import Derived.Test.YtcjapomfacohcaaMWeakCountsx0
namespace Go.Proofs.Ytcjapomfacohcaa.MWeakCounts
open Go.RowKit Go.Proofs.YtcjapomfacohcaaW.PrintWords Go.Proofs.YtcjapomfacohcaaW.PrintLast Go.Proofs.YtcjapomfacohcaaW.PrintMore
attribute [local go_sem] max2_int min2_int max_two min_two max_three min_three max_four min_four   -- for this text's walks alone
set_option linter.unusedVariables false
set_option linter.unusedSimpArgs false

/-! ### weak_own: function 14, by hand -/
def weak_own.f (l0 : List (S40)) : Option (List (S40)) := if l0.length ≤ 1000000 then some l0 else none
set_option maxHeartbeats 8000000 in
set_option maxRecDepth 100000 in
theorem weak_own.calls (A0 : Option Addr) (c0 : Nat) (l0 : List (S40)) (r : List (S40)) (w : World) (hr0 : Kd.C k40 w A0 l0.length l0) (hc0 : l0.length ≤ c0) (h : weak_own.f l0 = some r) :
    Calls Try.prog 14 #[.slice A0 l0.length c0] w fun e w' => ∃ v0_ : Value, e = .returned v0_ ∧ Kd.R k40 40 w' w.heap.size (fun _ => True) v0_ r ∧ Below w.heap.size w w' := by
  unfold weak_own.f at h
  by_cases hl : l0.length ≤ 1000000
  · rw [if_pos hl] at h
    obtain rfl := Option.some.inj h
    have HR := Aside0.mk hr0
    have C4 := Aside0.mk hl
    have info40s := Aside0.mk (show (Try.prog.info? 40).map (·.size) = some k40.sz by kernel_rfl)
    clear hr0 hl
    go_enter Try.func14, Try.ntmps14
    go_wp2_with (first | ((with_reducible refine gate_dst (N := 6) rfl ?_); refine Kd.R_make k40 _ 40 rfl (N := 6) rfl 22 _ _ rfl (l0.length : Int) rfl rfl Try.underlying22 (.agg #[.int .i64 0, .bool false, .int .i64 0]) 24 info40 rfl (by decide) (by omega) z40 (ok := fun k => w.heap.size ≤ k) (okp := fun k => w.heap.size ≤ k) (k40_mkM _ _ _ z40) (fun _ hk => hk) (Nat.le_refl _) (by omega) (by have := C4.out; rw [Int.toNat_natCast]; omega) (Below.refl _ _) (Nat.le_refl _) ?_; intro v1 w1 ho1 hb1 hg1 _; have HO1 := Aside0.mk ho1; have HB1 := Aside0.mk hb1; have HR1 := Aside0.mk (Kd.C_below HR.out hb1); clear ho1 hb1 hg1) | ((with_reducible refine gate_dst (N := 9) rfl ?_); refine Steps.copy_all_step k40 flat40 w.heap.size rfl (.tmp 7) (.tmp 8) 22 22 40 rfl Try.underlying22 info40s.out v1 (List.replicate (l0.length : Int).toNat z40) l0 A0 c0 (fun k => w.heap.size ≤ k) rfl rfl (by simp) HO1.out HR1.out HB1.out HB1.out.size ?_; intro w2 ho2 hb2; have HO2 := Aside0.mk ho2; have HB2 := Aside0.mk hb2; clear ho2 hb2 HO1 HB1))
    go_ret
    exact ⟨_, rfl, Kd.R_mono HO2.out (fun _ _ => trivial), HB2.out⟩
  · rw [if_neg hl] at h
    exact absurd h (by simp)
/-! ### weak_Clear: function 7, by hand -/
/-- Whether a cell is cleared. -/
def go1 (hs : List Int) (x : S40) : Bool := x.f1 && (x.f0 != 0) && decide (x.f0 ∈ hs)
/-- A cell, cleared. -/
def clr1 (hs : List Int) (x : S40) : S40 := if go1 hs x = true then ⟨x.f0, false, x.f2⟩ else x
/-- Who is called, of the first k. -/
def cals (hs : List Int) (l : List S40) : Nat → List Int
  | 0 => []
  | k + 1 => if (go1 hs (rd_T40 l (k : Int)) && decide (-1 < (rd_T40 l (k : Int)).f2)) = true then cals hs l k ++ [(k : Int)] else cals hs l k
theorem cals_len (hs : List Int) (l : List S40) (k : Nat) : (cals hs l k).length ≤ k := by
  induction k with
  | zero => exact Nat.le_refl _
  | succ k ih =>
    unfold cals
    split
    · rw [List.length_append]; simp; exact ih
    · omega
/-- The row, its first k cells cleared. -/
def outl (hs : List Int) (l : List S40) (k : Nat) : List S40 := (l.take k).map (clr1 hs) ++ l.drop k
theorem outl_len (hs : List Int) (l : List S40) (k : Nat) : (outl hs l k).length = l.length := by
  unfold outl; rw [List.length_append, List.length_map, List.length_take, List.length_drop]; omega
theorem outl_zero (hs : List Int) (l : List S40) : outl hs l 0 = l := rfl
theorem outl_all (hs : List Int) (l : List S40) : outl hs l l.length = l.map (clr1 hs) := by unfold outl; rw [List.take_length, List.drop_length, List.append_nil]
theorem outl_step (hs : List Int) (l : List S40) (k : Nat) (h : k < l.length) : outl hs l (k + 1) = (outl hs l k).set k (clr1 hs (rd_T40 l (k : Int))) := by
  have e : rd_T40 l (k : Int) = l[k] := by unfold rd_T40; rw [Int.toNat_natCast, List.getD_eq_getElem?_getD, List.getElem?_eq_getElem h]; rfl
  have hl : ((l.take k).map (clr1 hs)).length = k := by rw [List.length_map, List.length_take]; omega
  unfold outl
  rw [e, List.take_succ_eq_append_getElem h, List.map_append, List.drop_eq_getElem_cons h, List.set_append_right _ _ (by omega), hl, Nat.sub_self, List.set_cons_zero, List.append_assoc]
  rfl
theorem outl_get (hs : List Int) (l : List S40) (k : Nat) (h : k < l.length) : (outl hs l k).getD k z40 = rd_T40 l (k : Int) := by
  have hl : ((l.take k).map (clr1 hs)).length = k := by rw [List.length_map, List.length_take]; omega
  unfold outl rd_T40
  rw [Int.toNat_natCast, List.getD_eq_getElem?_getD, List.getD_eq_getElem?_getD, List.getElem?_append_right (by omega), hl, Nat.sub_self, List.getElem?_drop, Nat.add_zero]
theorem outl_same (hs : List Int) (l : List S40) (k : Nat) (h : k < l.length) (hg : go1 hs (rd_T40 l (k : Int)) = false) : outl hs l (k + 1) = outl hs l k := by
  rw [outl_step hs l k h]
  have e : clr1 hs (rd_T40 l (k : Int)) = (outl hs l k).getD k z40 := by rw [outl_get hs l k h]; unfold clr1; rw [hg]; rfl
  have hk : k < (outl hs l k).length := by rw [outl_len]; exact h
  rw [e, List.getD_eq_getElem?_getD, List.getElem?_eq_getElem hk]
  exact List.set_getElem_self hk
theorem goes1 (B : Nat) (A : Option Addr) (c : Nat) (xs : List Int) (x : S40) (hbig : xs.length ≤ 1000000) (w : World) (hB : B < w.heap.size)
    (hc : w.cell? ⟨B, 0, none⟩ = some (.slice A xs.length c)) (hC : Kd.C (Kd.int .i64) w A xs.length xs) :
    Calls Try.prog 15 #[.agg #[.int .i64 x.f0, .bool x.f1, .int .i64 x.f2], .pointer (some ⟨B, 0, none⟩)] w fun e w' => e = .returned (.bool (go1 xs x)) ∧ w' = w.alloc (.cells #[.int .i64 x.f0, .bool x.f1, .int .i64 x.f2] 40) :=
  (callsIn_wide (n := 5)).1 (goes_in Fence.wide 5 trivial trivial trivial rfl (by decide) B A c xs x.f0 x.f2 x.f1 hbig w hB hc hC)
def weak_Clear.f (l0 : List (S40)) (l1 : List Int) : Option (List (S40) × List Int) := if l0.length ≤ 1000000 then (if l1.length ≤ 1000000 then some (l0.map (clr1 l1), cals l1 l0 l0.length) else none) else none
set_option maxHeartbeats 8000000 in
set_option maxRecDepth 100000 in
theorem weak_Clear.calls (A0 : Option Addr) (c0 : Nat) (l0 : List (S40)) (A1 : Option Addr) (c1 : Nat) (l1 : List Int) (r1 : List (S40)) (r2 : List Int) (w : World) (hr0 : Kd.C k40 w A0 l0.length l0) (hc0 : l0.length ≤ c0) (hr1 : Kd.C (Kd.int .i64) w A1 l1.length l1) (hc1 : l1.length ≤ c1) (h : weak_Clear.f l0 l1 = some (r1, r2)) :
    Calls Try.prog 7 #[.slice A0 l0.length c0, .slice A1 l1.length c1] w fun e w' => ∃ v0_ v1_ : Value, e = .returned (.tuple #[v0_, v1_]) ∧ Kd.V k40 40 w' w.heap.size (fun k_ => (w.heap.size ≤ k_)) v0_ r1 ∧ Kd.V (Kd.int .i64) 3 w' w.heap.size (fun k_ => (w.heap.size ≤ k_)) v1_ r2 ∧ Below w.heap.size w w' := by
  unfold weak_Clear.f at h
  by_cases hl : l0.length ≤ 1000000
  · rw [if_pos hl] at h
    by_cases hl1 : l1.length ≤ 1000000
    · rw [if_pos hl1] at h
      simp only [Option.some.injEq, Prod.mk.injEq] at h
      obtain ⟨rfl, rfl⟩ := h
      have hB0 : Below w.heap.size w (w.alloc (.cells #[.slice A1 l1.length c1] 23)) := (Below.refl _ w).alloc (Nat.le_refl _) _
      have HO := Aside0.mk (show weak_own.f l0 = some l0 by unfold weak_own.f; rw [if_pos hl])
      have HR0 := Aside0.mk hr0
      have HR1 := Aside0.mk hr1
      have HL := Aside0.mk hl
      have HL1 := Aside0.mk hl1
      have HK := Aside0.mk (blk_new w (.cells #[.slice A1 l1.length c1] 23))
      have HB0 := Aside0.mk hB0
      clear hr0 hr1 hl hl1 hB0
      go_enter Try.func7, Try.ntmps7
      go_wp2_with (go_at_call 14; refine (weak_own.calls A0 c0 l0 l0 _ (Kd.C_below HR0.out HB0.out) hc0 HO.out).mono ?_; rintro e w1 ⟨v1, rfl, ho, hb⟩; obtain ⟨Ao, co, rfl⟩ := Kd.R_slice ho; have HO1 := Aside0.mk ho; have HB1 := Aside0.mk (HB0.out.trans (hb.mono (by simp))); have HK1 := Aside0.mk (blk_below HK.out hb); clear ho hb)
      have HO2 := Aside0.mk (show Kd.R k40 40 w1 (w.heap.size + 1) (fun k => w.heap.size + 1 ≤ k) (.slice Ao l0.length co) (outl l1 l0 0) by
        have h := HO1.out
        rw [World.size_alloc] at h
        exact Kd.R_mono (Kd.R_bound h) (fun k hk => hk.2.1))
      go_loopw [5, 14] (fun i5 i wr => ∃ k : Nat, k ≤ l0.length ∧ i = .int .i64 k ∧ Kd.R k40 40 wr (w.heap.size + 1) (fun k => w.heap.size + 1 ≤ k) (.slice Ao l0.length co) (outl l1 l0 k) ∧ Kd.R (Kd.int .i64) 3 wr (w.heap.size + 1) (fun k => w.heap.size + 1 ≤ k) i5 (cals l1 l0 k) ∧ Below w.heap.size w wr ∧ wr.heap[w.heap.size]? = some (.cells #[.slice A1 l1.length c1] 23 (0, 0)))
        (fun _ i _ => l0.length - (intOf i).toNat)
      case atStart => exact ⟨0, Nat.zero_le _, rfl, HO2.out, Kd.R_nil _ _ _ _ _, HB1.out, HK1.out⟩
      case round =>
        clear HO1 HO2 HB1 HK1
        obtain ⟨k, hk, rfl, hro, hrc, hnx, hbx⟩ := hrel
        have HRO := Aside0.mk hro
        have HRC := Aside0.mk hrc
        have HNX := Aside0.mk hnx
        have HBX := Aside0.mk hbx
        clear hro hrc hbx
        by_cases hlt : k < l0.length
        · obtain ⟨ad, e, hcx, hcy, hcz⟩ := at_T40 (Kd.C_below HR0.out hnx) (k : Int) (by omega) (by omega)
          cases e
          rw [Int.toNat_natCast] at hcx hcy hcz
          have hbA : Below w.heap.size w (wr.alloc (.cells #[.int .i64 (rd_T40 l0 (k : Int)).f0, .bool (rd_T40 l0 (k : Int)).f1, .int .i64 (rd_T40 l0 (k : Int)).f2] 40)) := hnx.alloc hnx.size _
          have HBA := Aside0.mk hbA
          have HG := Aside0.mk (goes1 w.heap.size A1 c1 l1 (rd_T40 l0 (k : Int)) HL1.out _ (Nat.lt_of_lt_of_le (blk_lt HBX.out) (by simp)) ((blk_cell (blk_alloc HBX.out (.cells #[.int .i64 (rd_T40 l0 (k : Int)).f0, .bool (rd_T40 l0 (k : Int)).f1, .int .i64 (rd_T40 l0 (k : Int)).f2] 40)) 0).trans rfl) (Kd.C_below HR1.out hbA))
          have hlb := HL.out
          clear hbA hnx
          cases hgo : go1 l1 (rd_T40 l0 (k : Int)) with
          | false =>
            have HGO := Aside0.mk hgo
            clear hgo
            go_wp2_with (go_at_call 15; refine HG.out.mono ?_; rw [HGO.out]; rintro e w' ⟨rfl, rfl⟩)
            go_roundw
            case rel => exact ⟨k + 1, by omega, by simp, by rw [outl_same l1 l0 k hlt HGO.out]; exact Kd.R_alloc (Kd.R_alloc HRO.out _) _, by rw [cals, HGO.out]; exact Kd.R_alloc (Kd.R_alloc HRC.out _) _, HBA.out.alloc (Nat.le_trans HNX.out.size (by simp)) _, blk_alloc (blk_alloc HBX.out _) _⟩
            case measure => simp [intOf]; omega
          | true =>
            have HGO := Aside0.mk hgo
            clear hgo
            obtain ⟨g, cap, eg, hgb, hgl, cg, hgc⟩ := Kd.R_form HRO.out (by rw [outl_len]; omega)
            rw [outl_len] at eg
            cases eg
            have HRO2 := Aside0.mk (Kd.R_alloc (Kd.R_alloc HRO.out (.cells #[.int .i64 (rd_T40 l0 (k : Int)).f0, .bool (rd_T40 l0 (k : Int)).f1, .int .i64 (rd_T40 l0 (k : Int)).f2] 40)) (.cells #[.int .i64 (rd_T40 l0 (k : Int)).f0, .bool (rd_T40 l0 (k : Int)).f1, .int .i64 (rd_T40 l0 (k : Int)).f2] 40))
            have HRC2 := Aside0.mk (Kd.R_alloc (Kd.R_alloc HRC.out (.cells #[.int .i64 (rd_T40 l0 (k : Int)).f0, .bool (rd_T40 l0 (k : Int)).f1, .int .i64 (rd_T40 l0 (k : Int)).f2] 40)) (.cells #[.int .i64 (rd_T40 l0 (k : Int)).f0, .bool (rd_T40 l0 (k : Int)).f1, .int .i64 (rd_T40 l0 (k : Int)).f2] 40))
            have HBX2 := Aside0.mk (blk_alloc (blk_alloc HBX.out (.cells #[.int .i64 (rd_T40 l0 (k : Int)).f0, .bool (rd_T40 l0 (k : Int)).f1, .int .i64 (rd_T40 l0 (k : Int)).f2] 40)) (.cells #[.int .i64 (rd_T40 l0 (k : Int)).f0, .bool (rd_T40 l0 (k : Int)).f1, .int .i64 (rd_T40 l0 (k : Int)).f2] 40))
            have HBA2 := Aside0.mk (HBA.out.alloc (Nat.le_trans HNX.out.size (by simp)) (.cells #[.int .i64 (rd_T40 l0 (k : Int)).f0, .bool (rd_T40 l0 (k : Int)).f1, .int .i64 (rd_T40 l0 (k : Int)).f2] 40))
            have HCX := Aside0.mk (show ((wr.alloc (.cells #[.int .i64 (rd_T40 l0 (k : Int)).f0, .bool (rd_T40 l0 (k : Int)).f1, .int .i64 (rd_T40 l0 (k : Int)).f2] 40)).alloc (.cells #[.int .i64 (rd_T40 l0 (k : Int)).f0, .bool (rd_T40 l0 (k : Int)).f1, .int .i64 (rd_T40 l0 (k : Int)).f2] 40)).heap[wr.heap.size]? = some (.cells #[.int .i64 (rd_T40 l0 (k : Int)).f0, .bool (rd_T40 l0 (k : Int)).f1, .int .i64 (rd_T40 l0 (k : Int)).f2] 40 (0, 0)) from blk_alloc (blk_new wr _) _)
            have HZ2 := Aside0.mk (show ((wr.alloc (.cells #[.int .i64 (rd_T40 l0 (k : Int)).f0, .bool (rd_T40 l0 (k : Int)).f1, .int .i64 (rd_T40 l0 (k : Int)).f2] 40)).alloc (.cells #[.int .i64 (rd_T40 l0 (k : Int)).f0, .bool (rd_T40 l0 (k : Int)).f1, .int .i64 (rd_T40 l0 (k : Int)).f2] 40)).heap.size = wr.heap.size + 2 by simp)
            have HGL := Aside0.mk hgl
            have HGB := Aside0.mk hgb
            clear hgl hgb
            have HGC := Aside0.mk (blk_alloc (blk_alloc hgc (.cells #[.int .i64 (rd_T40 l0 (k : Int)).f0, .bool (rd_T40 l0 (k : Int)).f1, .int .i64 (rd_T40 l0 (k : Int)).f2] 40)) (.cells #[.int .i64 (rd_T40 l0 (k : Int)).f0, .bool (rd_T40 l0 (k : Int)).f1, .int .i64 (rd_T40 l0 (k : Int)).f2] 40))
            clear hgc
            generalize hW2 : (wr.alloc (.cells #[.int .i64 (rd_T40 l0 (k : Int)).f0, .bool (rd_T40 l0 (k : Int)).f1, .int .i64 (rd_T40 l0 (k : Int)).f2] 40)).alloc (.cells #[.int .i64 (rd_T40 l0 (k : Int)).f0, .bool (rd_T40 l0 (k : Int)).f1, .int .i64 (rd_T40 l0 (k : Int)).f2] 40) = W2 at HRO2 HRC2 HBX2 HBA2 HCX HZ2 HGC
            obtain ⟨cE, hcl, hM, hcc, hfr⟩ := Kd.R_elem HRO2.out z40 (k : Int) (by omega) (by omega)
            rw [Int.toNat_natCast, outl_get l1 l0 k hlt] at hM
            obtain rfl := k40_openM hM
            have HCC := Aside0.mk hcc
            clear hM hcc hfr hcl
            have hclr : clr1 l1 (rd_T40 l0 (k : Int)) = ⟨(rd_T40 l0 (k : Int)).f0, false, (rd_T40 l0 (k : Int)).f2⟩ := by unfold clr1; rw [if_pos HGO.out]
            have HST := Aside0.mk (show (outl l1 l0 k).set (k : Int).toNat ⟨(rd_T40 l0 (k : Int)).f0, false, (rd_T40 l0 (k : Int)).f2⟩ = outl l1 l0 (k + 1) by rw [Int.toNat_natCast, outl_step l1 l0 k hlt, hclr])
            have HLC := Aside0.mk (cals_len l1 l0 k)
            clear hclr
            cases hq : decide (-1 < (rd_T40 l0 (k : Int)).f2) with
            | false =>
              have HCA := Aside0.mk (show cals l1 l0 (k + 1) = cals l1 l0 k by rw [cals, HGO.out, hq]; rfl)
              go_wp2_with (first | (go_at_call 15; refine HG.out.mono ?_; rw [HGO.out, hW2]; rintro e w' ⟨rfl, hw'⟩; rw [hw']; clear hw') | ((with_reducible refine gate_store (t := 4) (p := 26) rfl ?_); refine Kd.R_store k40 (w0 := W2) (w.heap.size + 1) rfl rfl 4 (.tmp 26) (.const (.bool false)) rfl 40 (k : Int) 1 (outl l1 l0 k) ⟨(rd_T40 l0 (k : Int)).f0, false, (rd_T40 l0 (k : Int)).f2⟩ (.bool false) [.bool false] [.int .i64 (rd_T40 l0 (k : Int)).f0, .bool (rd_T40 l0 (k : Int)).f1, .int .i64 (rd_T40 l0 (k : Int)).f2] (fun k => w.heap.size + 1 ≤ k) (fun _ => False) rfl rfl rfl rfl (by kernel_rfl) (by simp [Value.oneCell']) HRO2.out (by omega) (by omega) rfl HCC.out (by decide) (k40_mkM _ _ _ ⟨(rd_T40 l0 (k : Int)).f0, false, (rd_T40 l0 (k : Int)).f2⟩) (fun _ hk => hk.elim) (Below.refl _ _) ?_; intro w4 hro4 hb4 hg4; rw [HST.out] at hro4; have HRO4 := Aside0.mk hro4; have HRC4 := Aside0.mk (Kd.R_grown1 HRC2.out rfl hg4 (Kd.R_ne HRC2.out HGC.out (by decide))); have HBX4 := Aside0.mk (blk_grown HBX2.out hg4 (by intro e; injection e with e; have := HGB.out; omega)); have HCX4 := Aside0.mk (blk_grown HCX.out hg4 (by intro e; injection e with e; have := HGL.out; omega)); have HBA4 := Aside0.mk (HBA2.out.trans (hb4.mono (by omega))); have hcz4 : w4.cell? ⟨wr.heap.size, 2, none⟩ = some (.int .i64 (rd_T40 l0 (k : Int)).f2) := (blk_cell HCX4.out 2).trans rfl; clear hro4 hb4 hg4))
              go_roundw
              case rel => exact ⟨k + 1, by omega, by simp, HRO4.out, by rw [HCA.out]; exact HRC4.out, HBA4.out, HBX4.out⟩
              case measure => simp [intOf]; omega
            | true =>
              have HCA := Aside0.mk (show cals l1 l0 (k + 1) = cals l1 l0 k ++ [(k : Int)] by rw [cals, HGO.out, hq]; rfl)
              go_wp2_with (first | (go_at_call 15; refine HG.out.mono ?_; rw [HGO.out, hW2]; rintro e w' ⟨rfl, hw'⟩; rw [hw']; clear hw') | ((with_reducible refine gate_store (t := 4) (p := 26) rfl ?_); refine Kd.R_store k40 (w0 := W2) (w.heap.size + 1) rfl rfl 4 (.tmp 26) (.const (.bool false)) rfl 40 (k : Int) 1 (outl l1 l0 k) ⟨(rd_T40 l0 (k : Int)).f0, false, (rd_T40 l0 (k : Int)).f2⟩ (.bool false) [.bool false] [.int .i64 (rd_T40 l0 (k : Int)).f0, .bool (rd_T40 l0 (k : Int)).f1, .int .i64 (rd_T40 l0 (k : Int)).f2] (fun k => w.heap.size + 1 ≤ k) (fun _ => False) rfl rfl rfl rfl (by kernel_rfl) (by simp [Value.oneCell']) HRO2.out (by omega) (by omega) rfl HCC.out (by decide) (k40_mkM _ _ _ ⟨(rd_T40 l0 (k : Int)).f0, false, (rd_T40 l0 (k : Int)).f2⟩) (fun _ hk => hk.elim) (Below.refl _ _) ?_; intro w4 hro4 hb4 hg4; rw [HST.out] at hro4; have HRO4 := Aside0.mk hro4; have HRC4 := Aside0.mk (Kd.R_grown1 HRC2.out rfl hg4 (Kd.R_ne HRC2.out HGC.out (by decide))); have HBX4 := Aside0.mk (blk_grown HBX2.out hg4 (by intro e; injection e with e; have := HGB.out; omega)); have HCX4 := Aside0.mk (blk_grown HCX.out hg4 (by intro e; injection e with e; have := HGL.out; omega)); have HBA4 := Aside0.mk (HBA2.out.trans (hb4.mono (by omega))); have hcz4 : w4.cell? ⟨wr.heap.size, 2, none⟩ = some (.int .i64 (rd_T40 l0 (k : Int)).f2) := (blk_cell HCX4.out 2).trans rfl; have HS4 := Aside0.mk (show w.heap.size + 1 ≤ w4.heap.size from Nat.lt_of_lt_of_le (blk_lt HBX4.out) (Nat.le_refl _)); clear hro4 hb4 hg4) | ((with_reducible refine gate_builtin (b := .append) (xs := #[.tmp 30, .tmp 32]) rfl ?_); at_builtin; refine Kd.R_append (Kd.int .i64) (w0 := w4) (w.heap.size + 1) rfl (.tmp 30) (.tmp 32) 23 3 (.int .i64 0) 8 rfl Try.underlying23 info3 rfl (by decide) (by omega) _ (cals l1 l0 k) (k : Int) [.int .i64 (k : Int)] (fun k => w.heap.size + 1 ≤ k) (fun _ => False) rfl rfl rfl (fun _ hk => hk.elim) (fun k hk => Nat.le_trans HS4.out hk) HRC4.out (Below.refl _ _) HS4.out (by have := HLC.out; omega) ?_; intro v5 w5 ho5 hb5 hg5 _; rw [← HCA.out] at ho5; have HRC5 := Aside0.mk ho5; have HRO5 := Aside0.mk (Kd.R_over HRO4.out HRC4.out (by decide) hg5); have HBX5 := Aside0.mk (blk_grown HBX4.out hg5 (Kd.R_ne HRC4.out HBX4.out (by decide))); have HBA5 := Aside0.mk (HBA4.out.trans (hb5.mono (Nat.le_succ _))); clear ho5 hb5 hg5))
              go_roundw
              case rel => exact ⟨k + 1, by omega, by simp, HRO5.out, HRC5.out, HBA5.out, HBX5.out⟩
              case measure => simp [intOf]; omega
        · obtain rfl : k = l0.length := by omega
          go_wp2
          go_ret2
          exact ⟨_, _, rfl, Kd.V_mono (Kd.R_V (by have h := HRO.out; rw [outl_all] at h; exact h)) (fun k hk => by omega), Kd.V_mono (Kd.R_V HRC.out) (fun k hk => by omega), hnx⟩
    · rw [if_neg hl1] at h
      exact absurd h (by simp)
  · rw [if_neg hl] at h
    exact absurd h (by simp)
/-! ### weak_Intact: function 8, by hand -/
def weak_Intact.f (l0 : List (S40)) (a1 : Int) : Option Int := if l0.length ≤ 1000000 then some (cnp (fun x => x.f1) l0 a1) else none
set_option maxHeartbeats 2000000 in
theorem weak_Intact.calls (A0 : Option Addr) (c0 : Nat) (l0 : List (S40)) (a1 : Int) (r : Int) (w : World) (hr0 : Kd.C k40 w A0 l0.length l0) (hc0 : l0.length ≤ c0) (h : weak_Intact.f l0 a1 = some r) :
    Calls Try.prog 8 #[.slice A0 l0.length c0, .int .i64 a1] w fun e w' => e = .returned (.int .i64 r) ∧ Below w.heap.size w w' := by
  unfold weak_Intact.f at h
  by_cases hl : l0.length ≤ 1000000
  · rw [if_pos hl] at h
    obtain rfl := Option.some.inj h
    have HC := Aside0.mk hr0
    clear hr0
    have h1 : (1 : Nat) ≤ 5 := by decide
    refine (callsIn_wide (n := 5)).1 ?_
    refine callsIn_of_wp Try.func8 rfl trivial ?_ rfl
    simp only [Try.ntmps8, List.size_toArray, List.length_cons, List.length_nil, Nat.reduceAdd, Nat.reduceSub, Array.replicate_succ, Array.replicate_zero, List.push_toArray, List.append_toArray, List.nil_append, List.cons_append]
    gi_wp2_with (refine ⟨trivial, ?_⟩; gi_at_call 17; refine (count18_in Fence.wide (5 - 1) trivial trivial rfl (by decide) A0 c0 l0 a1 hl _ HC.out).mono ?_; rintro e w' ⟨rfl, hb⟩)
    go_ret
    exact ⟨rfl, hb⟩
  · rw [if_neg hl] at h
    exact absurd h (by simp)
/-! ### weak_Naming: function 10, by hand -/
def weak_Naming.f (l0 : List (S40)) (a1 : Int) : Option Int := if l0.length ≤ 1000000 then some (cnp (fun _ => true) l0 a1) else none
set_option maxHeartbeats 2000000 in
theorem weak_Naming.calls (A0 : Option Addr) (c0 : Nat) (l0 : List (S40)) (a1 : Int) (r : Int) (w : World) (hr0 : Kd.C k40 w A0 l0.length l0) (hc0 : l0.length ≤ c0) (h : weak_Naming.f l0 a1 = some r) :
    Calls Try.prog 10 #[.slice A0 l0.length c0, .int .i64 a1] w fun e w' => e = .returned (.int .i64 r) ∧ Below w.heap.size w w' := by
  unfold weak_Naming.f at h
  by_cases hl : l0.length ≤ 1000000
  · rw [if_pos hl] at h
    obtain rfl := Option.some.inj h
    have HC := Aside0.mk hr0
    clear hr0
    have h1 : (1 : Nat) ≤ 5 := by decide
    refine (callsIn_wide (n := 5)).1 ?_
    refine callsIn_of_wp Try.func10 rfl trivial ?_ rfl
    simp only [Try.ntmps10, List.size_toArray, List.length_cons, List.length_nil, Nat.reduceAdd, Nat.reduceSub, Array.replicate_succ, Array.replicate_zero, List.push_toArray, List.append_toArray, List.nil_append, List.cons_append]
    gi_wp2_with (refine ⟨trivial, ?_⟩; gi_at_call 17; refine (count19_in Fence.wide (5 - 1) trivial trivial rfl (by decide) A0 c0 l0 a1 hl _ HC.out).mono ?_; rintro e w' ⟨rfl, hb⟩)
    go_ret
    exact ⟨rfl, hb⟩
  · rw [if_neg hl] at h
    exact absurd h (by simp)
/-! ### weak_has: function 20 -/
def weak_has.f (l0 : List (S40)) (a1 : Int) : Option (Bool) := if a1 ≥ 0 then (some (decide (a1 < (l0.length : Int)))) else (some false)
set_option maxHeartbeats 8000000 in
set_option maxRecDepth 100000 in
theorem weak_has.calls (A0 : Option Addr) (c0 : Nat) (l0 : List (S40)) (a1 : Int) (r : Bool) (w : World) (hr0 : Kd.C k40 w A0 l0.length l0) (hc0 : l0.length ≤ c0) (h : weak_has.f l0 a1 = some r) :
    Calls Try.prog 20 #[.slice A0 l0.length c0, .int .i64 a1] w fun e w' => e = .returned (.bool r) ∧ Drawn0 w w' := by
  have HR0 := Aside0.mk hr0
  have HC0 := Aside0.mk hc0
  clear hr0 hc0
  have H : (if a1 ≥ 0 then (some (decide (a1 < (l0.length : Int)))) else (some false)) = some r := h
  clear h
  by_cases c3 : a1 ≥ 0
  · rw [if_pos c3] at H
    have c3b0 : decide (0 ≤ a1) = true := decide_eq_true c3
    clear c3
    obtain rfl := Option.some.inj H
    go_enter Try.func20, Try.ntmps20
    go_wp2
    go_ret
    exact ⟨by first | rfl | (simp; done) | (simp [*]; done), by repeat (first | exact Drawn0.refl _ | apply Drawn0.step)⟩
  · rw [if_neg c3] at H
    have c3b0 : decide (0 ≤ a1) = false := decide_eq_false c3
    clear c3
    obtain rfl := Option.some.inj H
    go_enter Try.func20, Try.ntmps20
    go_wp2
    go_ret
    exact ⟨by first | rfl | (simp; done) | (simp [*]; done), by repeat (first | exact Drawn0.refl _ | apply Drawn0.step)⟩

/-! ### weak_Set: function 11 -/
def weak_Set.f (l0 : List (S40)) (a1 : Int) (a2 : Int) (a3 : Int) : Option ((List (S40)) × Int × Int) := (weak_has.f l0 a1).bind fun t101 => (if t101 = true then ((weak_own.f l0).bind fun t102 => (if 0 ≤ a1 then (if a1 < (t102.length : Int) then (some ((t102.set (a1 : Int).toNat (⟨a2, (a2 != 0), a3⟩ : S40)), (rd_T40 t102 a1).f0, 0)) else (none)) else (none))) else (some (l0, 0, 7)))
set_option maxHeartbeats 8000000 in
set_option maxRecDepth 100000 in
theorem weak_Set.calls (P0_ : Nat → Prop) (A0 : Option Addr) (c0 : Nat) (l0 : List (S40)) (a1 : Int) (a2 : Int) (a3 : Int) (r1 : List (S40)) (r2 : Int) (r3 : Int) (w : World) (hs0 : Kd.V k40 40 w w.heap.size (fun k_ => P0_ k_) (.slice A0 l0.length c0) l0) (h : weak_Set.f l0 a1 a2 a3 = some (r1, r2, r3)) :
    Calls Try.prog 11 #[.slice A0 l0.length c0, .int .i64 a1, .int .i64 a2, .int .i64 a3] w fun e w' => ∃ v0_ : Value, e = .returned (.tuple #[v0_, .int .i64 r2, .int .i64 r3]) ∧ Kd.V k40 40 w' w.heap.size (fun k_ => (P0_ k_ ∨ w.heap.size ≤ k_)) v0_ r1 ∧ Below w.heap.size w w' := by
  have hu40 := Try.underlying40
  have HO0 := Aside0.mk (show Kd.V k40 40 w w.heap.size (fun k_ => (P0_ k_ ∨ w.heap.size ≤ k_)) (.slice A0 l0.length c0) l0 from Kd.V_mono hs0 (fun k_ hk => .inl hk))
  have HB := Aside0.mk (Below.refl w.heap.size w)
  have H : ((weak_has.f l0 a1).bind fun t101 => (if t101 = true then ((weak_own.f l0).bind fun t102 => (if 0 ≤ a1 then (if a1 < (t102.length : Int) then (some ((t102.set (a1 : Int).toNat (⟨a2, (a2 != 0), a3⟩ : S40)), (rd_T40 t102 a1).f0, 0)) else (none)) else (none))) else (some (l0, 0, 7)))) = some (r1, r2, r3) := h
  clear h
  replace H := Option.bind_eq_some_iff.mp H
  obtain ⟨t101, A50, H⟩ := H
  replace H : (if t101 = true then ((weak_own.f l0).bind fun t102 => (if 0 ≤ a1 then (if a1 < (t102.length : Int) then (some ((t102.set (a1 : Int).toNat (⟨a2, (a2 != 0), a3⟩ : S40)), (rd_T40 t102 a1).f0, 0)) else (none)) else (none))) else (some (l0, 0, 7))) = some (r1, r2, r3) := H
  have A5 := Aside0.mk A50
  clear A50
  by_cases c6 : t101 = true
  · subst c6
    have H1 : ((weak_own.f l0).bind fun t102 => (if 0 ≤ a1 then (if a1 < (t102.length : Int) then (some ((t102.set (a1 : Int).toNat (⟨a2, (a2 != 0), a3⟩ : S40)), (rd_T40 t102 a1).f0, 0)) else (none)) else (none))) = some (r1, r2, r3) := by rw [if_pos rfl] at H; exact H
    clear H
    have H := H1
    clear H1
    replace H := Option.bind_eq_some_iff.mp H
    obtain ⟨t102, A70, H⟩ := H
    replace H : (if 0 ≤ a1 then (if a1 < (t102.length : Int) then (some ((t102.set (a1 : Int).toNat (⟨a2, (a2 != 0), a3⟩ : S40)), (rd_T40 t102 a1).f0, 0)) else (none)) else (none)) = some (r1, r2, r3) := H
    have A7 := Aside0.mk A70
    clear A70
    by_cases c8 : 0 ≤ a1
    · rw [if_pos c8] at H
      have c8b0 : decide (0 ≤ a1) = true := decide_eq_true c8
      clear c8
      by_cases c9 : a1 < (t102.length : Int)
      · rw [if_pos c9] at H
        have c9b0 : decide (a1 < (t102.length : Int)) = true := decide_eq_true c9
        clear c9
        obtain ⟨y106, hy106⟩ : ∃ y_ : List (S40), y_ = (t102.set (a1 : Int).toNat (⟨a2, (a2 != 0), a3⟩ : S40)) := ⟨_, rfl⟩
        replace H : (some (y106, (rd_T40 t102 a1).f0, 0)) = some (r1, r2, r3) := by first | (rw [hy106]; with_reducible exact H) | (have H2_ := (Option.bind_some _ _).symm.trans H; rw [hy106]; with_reducible exact H2_) | (have H2_ := (Option.bind_some _ _).symm.trans H; with_reducible exact H2_) | with_reducible exact H | (rw [hy106]; exact H) | exact H
        have Ny106 := Aside0.mk hy106
        clear hy106
        simp only [Option.some.injEq, Prod.mk.injEq] at H
        obtain ⟨rfl, rfl, rfl⟩ := H
        go_enter Try.func11, Try.ntmps11
        go_wp2_with (first | ((with_reducible refine gate_callee (f := 20) rfl ?_); refine goesL_ (some 15) rfl rfl Try.func20 (by kernel_rfl) rfl #[.slice A0 l0.length c0, .int .i64 a1] rfl (by (try simp only [List.map_toArray, List.map_cons, List.map_nil]); first | done | rfl | (simp only [List.length_drop, List.length_take]; rfl)) ?_; (with_reducible refine (weak_has.calls _ _ l0 a1 true _ ?side1 ?side2 A5.out).mono ?_); (case side1 => repeat (first | exact (Kd.V_reads' HO0.out).2.2 | (with_reducible refine Kd.C_alloc ?_ _) | (with_reducible refine Kd.C_drewN ?_ _) | (with_reducible refine Kd.C_drew ?_))); (case side2 => exact (Kd.V_reads' HO0.out).2.1); rintro e w' ⟨rfl, ⟨nd, rfl⟩⟩; refine ⟨_, rfl, ?_⟩) | ((with_reducible refine gate_callee (f := 14) rfl ?_); refine goesL_ (some 19) rfl rfl Try.func14 (by kernel_rfl) rfl #[.slice A0 l0.length c0] rfl (by (try simp only [List.map_toArray, List.map_cons, List.map_nil]); first | done | rfl | (simp only [List.length_drop, List.length_take]; rfl)) ?_; (with_reducible refine (weak_own.calls _ _ l0 t102 _ ?side1 ?side2 A7.out).mono ?_); (case side1 => repeat (first | exact (Kd.V_reads' HO0.out).2.2 | (with_reducible refine Kd.C_alloc ?_ _) | (with_reducible refine Kd.C_drewN ?_ _) | (with_reducible refine Kd.C_drew ?_))); (case side2 => exact (Kd.V_reads' HO0.out).2.1); rintro e w11 ⟨v103, rfl, ho0, hb⟩; refine ⟨_, rfl, ?_⟩; have n0_ := Aside0.mk (Kd.V_elder' (by (with_reducible repeat (first | apply Kd.V_alloc | apply Kd.V_drewN | apply Kd.V_drew)); exact HO0.out) (Kd.R_base ho0) hb); have n1_ := Aside0.mk (Kd.R_lower (Kd.R_newM (M := fun k_ => (w.heap.size ≤ k_)) ho0 (below_size (by repeat (first | (with_reducible first | exact HB.out | apply below_alloc | apply pw_below_drewN | apply below_drew1) | exact HB.out))) (fun k_ h_ => h_)) (below_size (by repeat (first | (with_reducible first | exact HB.out | apply below_alloc | apply pw_below_drewN | apply below_drew1) | exact HB.out)))); have n2_ := Aside0.mk (below_step (by repeat (first | (with_reducible first | exact HB.out | apply below_alloc | apply pw_below_drewN | apply below_drew1) | exact HB.out)) hb); clear HO0; clear HB; have HO0 := n0_; have HO104 := n1_; have HB := n2_; clear n0_ n1_ n2_; (try clear hb); (try clear hb2); (try clear hk); (try clear hi); (try clear ho0); obtain ⟨Ao12, co12, eo12⟩ := Kd.R_slice HO104.out; subst eo12; have p105 : 0 ≤ (a1 : Int) := of_decide_eq_true (by first | (with_reducible assumption) | assumption); have q105 : a1 < (t102.length : Int) := of_decide_eq_true (by first | (with_reducible assumption) | assumption); obtain ⟨ad105, e105, hx105_0, hx105_1, hx105_2⟩ := at_T40 (Kd.R_reads' HO104.out).2.2 a1 p105 q105; cases e105; replace p105 := eq_true p105; replace q105 := eq_true q105; have p10 : 0 ≤ (a1 : Int) := of_decide_eq_true (by first | (with_reducible assumption) | assumption); have q10 : (a1 : Int) < ((t102.length : Int) : Int) := of_decide_eq_true (by first | (with_reducible assumption) | assumption); obtain ⟨go10, co10, eo10, gb10, gl10, cl10, HG10⟩ := Kd.R_form HO104.out (by omega); (first | cases eo10 | (injection eo10 with ea_ en_ ec_; (first | subst ea_ | (injection ea_ with ea_; subst ea_)); subst ec_; clear en_)); have GB10 := Aside0.mk gb10; have GG10 := Aside0.mk HG10; clear gb10 gl10 HG10; (first | simp only [add_plain] at hx105_0 | skip); (first | simp only [add_plain] at hx105_1 | skip); (first | simp only [add_plain] at hx105_2 | skip); obtain ⟨ce10, hcl10, hM10, hcc10, hfr10⟩ := Kd.R_elem HO104.out z40 (a1 : Int) p10 q10; obtain rfl := k40_openM hM10; have hx10_0 : w11.cell? ⟨go10, (a1 : Int).toNat * 3, none⟩ = some (.int .i64 ((rd_T40 t102 a1).f0)) := hcc10 0 _ rfl; have hx10_1 : w11.cell? ⟨go10, (a1 : Int).toNat * 3 + 1, none⟩ = some (.bool ((rd_T40 t102 a1).f1)) := hcc10 1 _ rfl; have hx10_2 : w11.cell? ⟨go10, (a1 : Int).toNat * 3 + 2, none⟩ = some (.int .i64 ((rd_T40 t102 a1).f2)) := hcc10 2 _ rfl; have hf10_0 : w11.frozen? ⟨go10, (a1 : Int).toNat * 3, none⟩ = false := hfr10 0; have hf10_1 : w11.frozen? ⟨go10, (a1 : Int).toNat * 3 + 1, none⟩ = false := hfr10 1; have hf10_2 : w11.frozen? ⟨go10, (a1 : Int).toNat * 3 + 2, none⟩ = false := hfr10 2; clear hcl10 hcc10 hfr10 hM10; replace p10 := eq_true p10; replace q10 := eq_true q10; have n_ := Aside0.mk (Kd.R_mono (ok' := (fun k_ => (w.heap.size ≤ k_))) HO104.out (fun k_ hk => hk.1)); clear HO104; have HO104 := n_; clear n_; have HX13 := Aside0.mk (show Kd.R k40 40 w11 w.heap.size (fun k_ => (w.heap.size ≤ k_)) (.slice (some ⟨go10, 0, none⟩) t102.length co12) t102 from (by (with_reducible repeat (first | apply Kd.R_alloc | apply Kd.R_drewN | apply Kd.R_drew)); exact HO104.out)); obtain ⟨ce13, hcl13, hM13, hcc13, hfr13⟩ := Kd.R_elem HX13.out z40 (a1 : Int) (of_decide_eq_true (by first | (with_reducible assumption) | assumption)) (by have h_ : (a1 : Int) < ((t102.length : Int) : Int) := of_decide_eq_true (by first | (with_reducible assumption) | assumption); first | exact h_ | (have e_ := (Kd.R_reads' HO104.out).1; omega) | simpa using h_); obtain rfl := k40_openM hM13; have HP13 := Kd.R_seg HX13.out (a1 : Int) (of_decide_eq_true (by first | (with_reducible assumption) | assumption)) (by have h_ : (a1 : Int) < ((t102.length : Int) : Int) := of_decide_eq_true (by first | (with_reducible assumption) | assumption); first | exact h_ | (have e_ := (Kd.R_reads' HO104.out).1; omega) | simpa using h_) (seg := [.int .i64 a2, .bool (a2 != 0), .int .i64 a3]) (j := 0) hcl13 hcc13 (show 3 ≤ 3 from by decide) (x' := (⟨a2, (a2 != 0), a3⟩ : S40)) (k40_mkM _ _ _ (⟨a2, (a2 != 0), a3⟩ : S40) ) (fun _ hk => hk); have hx13_0 := hcc13 0 _ rfl; (try simp only [show (k40).sz = 3 from rfl, Nat.mul_one, Nat.add_zero] at hx13_0); have hf13_0 := hfr13 0; (try simp only [show (k40).sz = 3 from rfl, Nat.mul_one, Nat.add_zero] at hf13_0); have hx13_1 := hcc13 1 _ rfl; (try simp only [show (k40).sz = 3 from rfl, Nat.mul_one, Nat.add_zero] at hx13_1); have hf13_1 := hfr13 1; (try simp only [show (k40).sz = 3 from rfl, Nat.mul_one, Nat.add_zero] at hf13_1); have hx13_2 := hcc13 2 _ rfl; (try simp only [show (k40).sz = 3 from rfl, Nat.mul_one, Nat.add_zero] at hx13_2); have hf13_2 := hfr13 2; (try simp only [show (k40).sz = 3 from rfl, Nat.mul_one, Nat.add_zero] at hf13_2); clear hcl13 hcc13 hfr13 hM13) | ((with_reducible refine gate_store (t := 40) (p := 32) rfl ?_); refine store_event (t := 40) (p := 32) (v := ?vo_w14) (w1 := (((w11.setCell ⟨go10, (a1 : Int).toNat * 3, none⟩ (.int .i64 a2)).setCell ⟨go10, (a1 : Int).toNat * 3 + 1, none⟩ (.bool (a2 != 0))).setCell ⟨go10, (a1 : Int).toNat * 3 + 2, none⟩ (.int .i64 a3))) ?hg ?ho ?hn ?hr ?_; (case ho => rfl); (case hg => rfl); (case hn => rfl); (case hr => first | (go_simp; done) | (go_simp; rfl)); intro w14 hw; have hg : w11.grownBy w14 (some go10) := (by rw [hw]; exact HP13.2); have hp_ : Kd.R k40 40 w14 w.heap.size (fun k_ => (w.heap.size ≤ k_)) (.slice (some ⟨go10, 0, none⟩) t102.length co12) y106 := (by rw [hw, Ny106.out]; exact HP13.1); clear HP13; have n0_ := Aside0.mk (Kd.V_afterv (v := (.slice (some ⟨go10, 0, none⟩) t102.length co12)) (v1 := (.slice (some ⟨go10, 0, none⟩) t102.length co12)) (ok := (fun k_ => (P0_ k_ ∨ w.heap.size ≤ k_))) (by (with_reducible repeat (first | apply Kd.V_alloc | apply Kd.V_drewN | apply Kd.V_drew)); exact HO0.out) hg (.inl rfl)); have n1_ := Aside0.mk (hp_); have n2_ := Aside0.mk ((by rw [hw]; exact below_set (below_set (below_set (HB.out) GB10.out) GB10.out) GB10.out : Below w.heap.size w w14)); clear HO0; clear HO104; clear HB; have HO0 := n0_; have HO104 := n1_; have HB := n2_; clear n0_ n1_ n2_; clear hg hw hp_))
        go_ret3
        exact ⟨_, by first | rfl | (simp [errW_none, errW_some] <;> rfl) | (simp [*, errW_none, errW_some] <;> rfl), Kd.V_mono (Kd.R_V (by (with_reducible repeat (first | apply Kd.R_alloc | apply Kd.R_drewN | apply Kd.R_drew)); exact HO104.out)) (fun k_ hk => by first | exact ⟨(.inr (hk.1)), hk.2⟩ | exact (.inr (hk))), by repeat (first | (with_reducible first | exact HB.out | apply below_alloc | apply pw_below_drewN | apply below_drew1) | exact HB.out)⟩
      · rw [if_neg c9] at H
        exact absurd H (by simp)
    · rw [if_neg c8] at H
      exact absurd H (by simp)
  · replace c6 := Bool.eq_false_iff.mpr c6
    subst c6
    have H1 : (some (l0, 0, 7)) = some (r1, r2, r3) := by rw [if_neg (show ¬ (false = true) by decide)] at H; exact H
    clear H
    have H := H1
    clear H1
    simp only [Option.some.injEq, Prod.mk.injEq] at H
    obtain ⟨rfl, rfl, rfl⟩ := H
    go_enter Try.func11, Try.ntmps11
    go_wp2_with (first | ((with_reducible refine gate_callee (f := 20) rfl ?_); refine goesL_ (some 15) rfl rfl Try.func20 (by kernel_rfl) rfl #[.slice A0 l0.length c0, .int .i64 a1] rfl (by (try simp only [List.map_toArray, List.map_cons, List.map_nil]); first | done | rfl | (simp only [List.length_drop, List.length_take]; rfl)) ?_; (with_reducible refine (weak_has.calls _ _ l0 a1 false _ ?side1 ?side2 A5.out).mono ?_); (case side1 => repeat (first | exact (Kd.V_reads' HO0.out).2.2 | (with_reducible refine Kd.C_alloc ?_ _) | (with_reducible refine Kd.C_drewN ?_ _) | (with_reducible refine Kd.C_drew ?_))); (case side2 => exact (Kd.V_reads' HO0.out).2.1); rintro e w' ⟨rfl, ⟨nd, rfl⟩⟩; refine ⟨_, rfl, ?_⟩))
    go_ret3
    exact ⟨_, by first | rfl | (simp [errW_none, errW_some] <;> rfl) | (simp [*, errW_none, errW_some] <;> rfl), by (with_reducible repeat (first | apply Kd.V_alloc | apply Kd.V_drewN | apply Kd.V_drew)); exact HO0.out, by repeat (first | (with_reducible first | exact HB.out | apply below_alloc | apply pw_below_drewN | apply below_drew1) | exact HB.out)⟩

/-! ### weak_Load: function 12 -/
def weak_Load.f (l0 : List (S40)) (a1 : Int) : Option (Int × Int) := (weak_has.f l0 a1).bind fun t107 => (if t107 = true then (if 0 ≤ a1 then (if a1 < (l0.length : Int) then (if (rd_T40 l0 a1).f1 = true then (if ((rd_T40 l0 a1).f0) = 0 then (some ((rd_T40 l0 a1).f0, 9)) else (some ((rd_T40 l0 a1).f0, 0))) else (if 0 = 0 then (some (0, 9)) else (some (0, 0)))) else (none)) else (none)) else (some (0, 7)))
set_option maxHeartbeats 8000000 in
set_option maxRecDepth 100000 in
theorem weak_Load.calls (A0 : Option Addr) (c0 : Nat) (l0 : List (S40)) (a1 : Int) (r1 : Int) (r2 : Int) (w : World) (hr0 : Kd.C k40 w A0 l0.length l0) (hc0 : l0.length ≤ c0) (h : weak_Load.f l0 a1 = some (r1, r2)) :
    Calls Try.prog 12 #[.slice A0 l0.length c0, .int .i64 a1] w fun e w' => e = .returned (.tuple #[.int .i64 r1, .int .i64 r2]) ∧ Drawn0 w w' := by
  have HR0 := Aside0.mk hr0
  have HC0 := Aside0.mk hc0
  clear hr0 hc0
  have H : ((weak_has.f l0 a1).bind fun t107 => (if t107 = true then (if 0 ≤ a1 then (if a1 < (l0.length : Int) then (if (rd_T40 l0 a1).f1 = true then (if ((rd_T40 l0 a1).f0) = 0 then (some ((rd_T40 l0 a1).f0, 9)) else (some ((rd_T40 l0 a1).f0, 0))) else (if 0 = 0 then (some (0, 9)) else (some (0, 0)))) else (none)) else (none)) else (some (0, 7)))) = some (r1, r2) := h
  clear h
  replace H := Option.bind_eq_some_iff.mp H
  obtain ⟨t107, A30, H⟩ := H
  replace H : (if t107 = true then (if 0 ≤ a1 then (if a1 < (l0.length : Int) then (if (rd_T40 l0 a1).f1 = true then (if ((rd_T40 l0 a1).f0) = 0 then (some ((rd_T40 l0 a1).f0, 9)) else (some ((rd_T40 l0 a1).f0, 0))) else (if 0 = 0 then (some (0, 9)) else (some (0, 0)))) else (none)) else (none)) else (some (0, 7))) = some (r1, r2) := H
  have A3 := Aside0.mk A30
  clear A30
  by_cases c4 : t107 = true
  · subst c4
    have H1 : (if 0 ≤ a1 then (if a1 < (l0.length : Int) then (if (rd_T40 l0 a1).f1 = true then (if ((rd_T40 l0 a1).f0) = 0 then (some ((rd_T40 l0 a1).f0, 9)) else (some ((rd_T40 l0 a1).f0, 0))) else (if 0 = 0 then (some (0, 9)) else (some (0, 0)))) else (none)) else (none)) = some (r1, r2) := by rw [if_pos rfl] at H; exact H
    clear H
    have H := H1
    clear H1
    by_cases c5 : 0 ≤ a1
    · rw [if_pos c5] at H
      have c5b0 : decide (0 ≤ a1) = true := decide_eq_true c5
      clear c5
      by_cases c6 : a1 < (l0.length : Int)
      · rw [if_pos c6] at H
        have c6b0 : decide (a1 < (l0.length : Int)) = true := decide_eq_true c6
        clear c6
        obtain ⟨bq7, hbq7⟩ : ∃ b_ : Bool, b_ = ((rd_T40 l0 a1).f1) := ⟨_, rfl⟩
        replace H : (if bq7 = true then (if ((rd_T40 l0 a1).f0) = 0 then (some ((rd_T40 l0 a1).f0, 9)) else (some ((rd_T40 l0 a1).f0, 0))) else (if 0 = 0 then (some (0, 9)) else (some (0, 0)))) = some (r1, r2) := by rw [← hbq7] at H; exact H
        have Nbq7 := Aside0.mk hbq7
        clear hbq7
        by_cases c8 : bq7 = true
        · subst c8
          have H1 : (if ((rd_T40 l0 a1).f0) = 0 then (some ((rd_T40 l0 a1).f0, 9)) else (some ((rd_T40 l0 a1).f0, 0))) = some (r1, r2) := by rw [if_pos rfl] at H; exact H
          clear H
          have H := H1
          clear H1
          by_cases c9 : ((rd_T40 l0 a1).f0) = 0
          · rw [if_pos c9] at H
            have c9b0 : (((rd_T40 l0 a1).f0) == 0) = true := beq_iff_eq.mpr c9
            have c9b1 : (((rd_T40 l0 a1).f0) != 0) = false := bne_eq_false_iff_eq.mpr c9
            clear c9
            simp only [Option.some.injEq, Prod.mk.injEq] at H
            obtain ⟨rfl, rfl⟩ := H
            go_enter Try.func12, Try.ntmps12
            go_wp2_with (first | ((with_reducible refine gate_callee (f := 20) rfl ?_); refine goesL_ (some 9) rfl rfl Try.func20 (by kernel_rfl) rfl #[.slice A0 l0.length c0, .int .i64 a1] rfl (by (try simp only [List.map_toArray, List.map_cons, List.map_nil]); first | done | rfl | (simp only [List.length_drop, List.length_take]; rfl)) ?_; (with_reducible refine (weak_has.calls _ _ l0 a1 true _ ?side1 ?side2 A3.out).mono ?_); (case side1 => repeat (first | exact HR0.out | (with_reducible refine Kd.C_alloc ?_ _) | (with_reducible refine Kd.C_drewN ?_ _) | (with_reducible refine Kd.C_drew ?_))); (case side2 => exact HC0.out); rintro e w' ⟨rfl, ⟨nd, rfl⟩⟩; refine ⟨_, rfl, ?_⟩; have p108 : 0 ≤ (a1 : Int) := of_decide_eq_true (by first | (with_reducible assumption) | assumption); have q108 : a1 < (l0.length : Int) := of_decide_eq_true (by first | (with_reducible assumption) | assumption); obtain ⟨ad108, e108, hx108_0, hx108_1, hx108_2⟩ := at_T40 HR0.out a1 p108 q108; (try rw [← Nbq7.out] at hx108_1); cases e108; replace p108 := eq_true p108; replace q108 := eq_true q108; have p109 : 0 ≤ (a1 : Int) := of_decide_eq_true (by first | (with_reducible assumption) | assumption); have q109 : a1 < (l0.length : Int) := of_decide_eq_true (by first | (with_reducible assumption) | assumption); obtain ⟨ad109, e109, hx109_0, hx109_1, hx109_2⟩ := at_T40 HR0.out a1 p109 q109; (try rw [← Nbq7.out] at hx109_1); obtain rfl : ad108 = ad109 := (by injection e109); replace p109 := eq_true p109; replace q109 := eq_true q109))
            go_ret2
            exact ⟨by first | rfl | (simp; done) | (simp [*]; done), by repeat (first | exact Drawn0.refl _ | apply Drawn0.step)⟩
          · rw [if_neg c9] at H
            have c9b0 : (((rd_T40 l0 a1).f0) == 0) = false := beq_eq_false_iff_ne.mpr c9
            have c9b1 : (((rd_T40 l0 a1).f0) != 0) = true := bne_iff_ne.mpr c9
            simp only [Option.some.injEq, Prod.mk.injEq] at H
            obtain ⟨rfl, rfl⟩ := H
            go_enter Try.func12, Try.ntmps12
            go_wp2_with (first | ((with_reducible refine gate_callee (f := 20) rfl ?_); refine goesL_ (some 9) rfl rfl Try.func20 (by kernel_rfl) rfl #[.slice A0 l0.length c0, .int .i64 a1] rfl (by (try simp only [List.map_toArray, List.map_cons, List.map_nil]); first | done | rfl | (simp only [List.length_drop, List.length_take]; rfl)) ?_; (with_reducible refine (weak_has.calls _ _ l0 a1 true _ ?side1 ?side2 A3.out).mono ?_); (case side1 => repeat (first | exact HR0.out | (with_reducible refine Kd.C_alloc ?_ _) | (with_reducible refine Kd.C_drewN ?_ _) | (with_reducible refine Kd.C_drew ?_))); (case side2 => exact HC0.out); rintro e w' ⟨rfl, ⟨nd, rfl⟩⟩; refine ⟨_, rfl, ?_⟩; have p108 : 0 ≤ (a1 : Int) := of_decide_eq_true (by first | (with_reducible assumption) | assumption); have q108 : a1 < (l0.length : Int) := of_decide_eq_true (by first | (with_reducible assumption) | assumption); obtain ⟨ad108, e108, hx108_0, hx108_1, hx108_2⟩ := at_T40 HR0.out a1 p108 q108; (try rw [← Nbq7.out] at hx108_1); cases e108; replace p108 := eq_true p108; replace q108 := eq_true q108; have p109 : 0 ≤ (a1 : Int) := of_decide_eq_true (by first | (with_reducible assumption) | assumption); have q109 : a1 < (l0.length : Int) := of_decide_eq_true (by first | (with_reducible assumption) | assumption); obtain ⟨ad109, e109, hx109_0, hx109_1, hx109_2⟩ := at_T40 HR0.out a1 p109 q109; (try rw [← Nbq7.out] at hx109_1); obtain rfl : ad108 = ad109 := (by injection e109); replace p109 := eq_true p109; replace q109 := eq_true q109))
            go_ret2
            exact ⟨by first | rfl | (simp; done) | (simp [*]; done), by repeat (first | exact Drawn0.refl _ | apply Drawn0.step)⟩
        · replace c8 := Bool.eq_false_iff.mpr c8
          subst c8
          have H1 : (if 0 = 0 then (some (0, 9)) else (some (0, 0))) = some (r1, r2) := by rw [if_neg (show ¬ (false = true) by decide)] at H; exact H
          clear H
          have H := H1
          clear H1
          by_cases c10 : 0 = 0
          · rw [if_pos c10] at H
            have c10b0 : (0 == 0) = true := beq_iff_eq.mpr c10
            have c10b1 : (0 != 0) = false := bne_eq_false_iff_eq.mpr c10
            clear c10
            simp only [Option.some.injEq, Prod.mk.injEq] at H
            obtain ⟨rfl, rfl⟩ := H
            go_enter Try.func12, Try.ntmps12
            go_wp2_with (first | ((with_reducible refine gate_callee (f := 20) rfl ?_); refine goesL_ (some 9) rfl rfl Try.func20 (by kernel_rfl) rfl #[.slice A0 l0.length c0, .int .i64 a1] rfl (by (try simp only [List.map_toArray, List.map_cons, List.map_nil]); first | done | rfl | (simp only [List.length_drop, List.length_take]; rfl)) ?_; (with_reducible refine (weak_has.calls _ _ l0 a1 true _ ?side1 ?side2 A3.out).mono ?_); (case side1 => repeat (first | exact HR0.out | (with_reducible refine Kd.C_alloc ?_ _) | (with_reducible refine Kd.C_drewN ?_ _) | (with_reducible refine Kd.C_drew ?_))); (case side2 => exact HC0.out); rintro e w' ⟨rfl, ⟨nd, rfl⟩⟩; refine ⟨_, rfl, ?_⟩; have p108 : 0 ≤ (a1 : Int) := of_decide_eq_true (by first | (with_reducible assumption) | assumption); have q108 : a1 < (l0.length : Int) := of_decide_eq_true (by first | (with_reducible assumption) | assumption); obtain ⟨ad108, e108, hx108_0, hx108_1, hx108_2⟩ := at_T40 HR0.out a1 p108 q108; (try rw [← Nbq7.out] at hx108_1); cases e108; replace p108 := eq_true p108; replace q108 := eq_true q108))
            go_ret2
            exact ⟨by first | rfl | (simp; done) | (simp [*]; done), by repeat (first | exact Drawn0.refl _ | apply Drawn0.step)⟩
          · rw [if_neg c10] at H
            exact absurd rfl c10
      · rw [if_neg c6] at H
        exact absurd H (by simp)
    · rw [if_neg c5] at H
      exact absurd H (by simp)
  · replace c4 := Bool.eq_false_iff.mpr c4
    subst c4
    have H1 : (some (0, 7)) = some (r1, r2) := by rw [if_neg (show ¬ (false = true) by decide)] at H; exact H
    clear H
    have H := H1
    clear H1
    simp only [Option.some.injEq, Prod.mk.injEq] at H
    obtain ⟨rfl, rfl⟩ := H
    go_enter Try.func12, Try.ntmps12
    go_wp2_with (first | ((with_reducible refine gate_callee (f := 20) rfl ?_); refine goesL_ (some 9) rfl rfl Try.func20 (by kernel_rfl) rfl #[.slice A0 l0.length c0, .int .i64 a1] rfl (by (try simp only [List.map_toArray, List.map_cons, List.map_nil]); first | done | rfl | (simp only [List.length_drop, List.length_take]; rfl)) ?_; (with_reducible refine (weak_has.calls _ _ l0 a1 false _ ?side1 ?side2 A3.out).mono ?_); (case side1 => repeat (first | exact HR0.out | (with_reducible refine Kd.C_alloc ?_ _) | (with_reducible refine Kd.C_drewN ?_ _) | (with_reducible refine Kd.C_drew ?_))); (case side2 => exact HC0.out); rintro e w' ⟨rfl, ⟨nd, rfl⟩⟩; refine ⟨_, rfl, ?_⟩))
    go_ret2
    exact ⟨by first | rfl | (simp; done) | (simp [*]; done), by repeat (first | exact Drawn0.refl _ | apply Drawn0.step)⟩

/-! ### weak_New: function 13, by hand -/
def weak_New.f (a0 : Int) : Option (List (S40)) := if a0 = 3 then some [⟨0, false, -1⟩, ⟨0, false, -1⟩, ⟨0, false, -1⟩] else if a0 = 7 then some [] else none
set_option maxRecDepth 100000 in
set_option maxHeartbeats 8000000 in
theorem weak_New.calls (a0 : Int) (r : List (S40)) (w : World) (h : weak_New.f a0 = some r) :
    Calls Try.prog 13 #[.int .i64 a0] w fun e w' => ∃ v0_ : Value, e = .returned v0_ ∧ Kd.R k40 40 w' w.heap.size (fun _ => True) v0_ r ∧ Below w.heap.size w w' := by
  unfold weak_New.f at h
  by_cases h3 : a0 = 3
  · rw [if_pos h3] at h
    obtain rfl := Option.some.inj h
    subst h3
    have hB : Below w.heap.size w (w.alloc (.cells #[.int .i64 0, .bool false, .int .i64 (-1)] 40)) := (Below.refl _ _).alloc (Nat.le_refl _) _
    have HB := Aside0.mk hB
    have HG := Aside0.mk (blk_new w (.cells #[.int .i64 0, .bool false, .int .i64 (-1)] 40))
    clear hB
    go_enter Try.func13, Try.ntmps13
    go_wp2_with (go_at_call 21; refine (rep3 w.heap.size _ HG.out).mono ?_; rintro e w1 ⟨v1, rfl, ho, hb⟩; obtain ⟨Ao, co, rfl⟩ := Kd.R_slice ho; have HO := Aside0.mk ho; have HB1 := Aside0.mk hb; clear ho hb)
    go_ret
    exact ⟨_, rfl, Kd.R_lower HO.out (by simp), HB.out.trans (HB1.out.mono (by simp))⟩
  · rw [if_neg h3] at h
    by_cases h7 : a0 = 7
    · rw [if_pos h7] at h
      obtain rfl := Option.some.inj h
      subst h7
      have hB : Below w.heap.size w (w.alloc (.cells #[.int .i64 0, .bool false, .int .i64 (-1)] 40)) := (Below.refl _ _).alloc (Nat.le_refl _) _
      have HB := Aside0.mk hB
      clear hB h3
      go_enter Try.func13, Try.ntmps13
      go_wp2_with (go_at_call 21; refine (rep0 w.heap.size _).mono ?_; rintro e w1 ⟨v1, rfl, ho, hb⟩; obtain ⟨Ao, co, rfl⟩ := Kd.R_slice ho; have HO := Aside0.mk ho; have HB1 := Aside0.mk hb; clear ho hb)
      go_ret
      exact ⟨_, rfl, Kd.R_lower HO.out (by simp), HB.out.trans (HB1.out.mono (by simp))⟩
    · rw [if_neg h7] at h
      exact absurd h (by simp)
/-! ### mortmainlaw09_shown: function 6 -/
def mortmainlaw09_shown.f  : Option (Bool) := (weak_New.f 3).bind fun t110 => ((weak_Set.f t110 0 3 0).bind fun bt113 => ((weak_Set.f bt113.1 1 4 0).bind fun bt118 => ((weak_Set.f bt118.1 2 3 (-1)).bind fun bt123 => ((weak_Load.f bt123.1 0).bind fun bt128 => ((weak_Clear.f bt123.1 (([3, 0] : List Int))).bind fun bt133 => ((weak_Load.f bt133.1 0).bind fun bt139 => ((weak_Set.f bt123.1 3 1 0).bind fun bt141 => (if bt113.2.2 = 0 then (if bt123.2.1 = 0 then (if bt128.1 = 3 then (if bt128.2 = 0 then (if (bt133.2.length : Int) = 1 then (if 0 < (bt133.2.length : Int) then (if (rd bt133.2 0) = 0 then (if bt139.2 = 9 then (if bt141.2.2 = 7 then ((weak_Naming.f bt133.1 3).bind fun t147 => (if t147 = 2 then ((weak_Intact.f bt133.1 3).bind fun t148 => (if t148 = 0 then ((weak_Intact.f bt123.1 3).bind fun t149 => (if t149 = 2 then ((weak_New.f 7).bind fun t150 => (some ((t150.length : Int) == 0))) else (none))) else (none))) else (none))) else (none)) else (none)) else (none)) else (none)) else (none)) else (none)) else (none)) else (none)) else (none)))))))))
set_option maxHeartbeats 8000000 in
set_option maxRecDepth 100000 in
theorem mortmainlaw09_shown.calls  (r : Bool) (w : World) (h : mortmainlaw09_shown.f  = some r) :
    Calls Try.prog 6 #[] w fun e w' => e = .returned (.bool r) ∧ Below w.heap.size w w' := by
  have HB := Aside0.mk (Below.refl w.heap.size w)
  have H : ((weak_New.f 3).bind fun t110 => ((weak_Set.f t110 0 3 0).bind fun bt113 => ((weak_Set.f bt113.1 1 4 0).bind fun bt118 => ((weak_Set.f bt118.1 2 3 (-1)).bind fun bt123 => ((weak_Load.f bt123.1 0).bind fun bt128 => ((weak_Clear.f bt123.1 (([3, 0] : List Int))).bind fun bt133 => ((weak_Load.f bt133.1 0).bind fun bt139 => ((weak_Set.f bt123.1 3 1 0).bind fun bt141 => (if bt113.2.2 = 0 then (if bt123.2.1 = 0 then (if bt128.1 = 3 then (if bt128.2 = 0 then (if (bt133.2.length : Int) = 1 then (if 0 < (bt133.2.length : Int) then (if (rd bt133.2 0) = 0 then (if bt139.2 = 9 then (if bt141.2.2 = 7 then ((weak_Naming.f bt133.1 3).bind fun t147 => (if t147 = 2 then ((weak_Intact.f bt133.1 3).bind fun t148 => (if t148 = 0 then ((weak_Intact.f bt123.1 3).bind fun t149 => (if t149 = 2 then ((weak_New.f 7).bind fun t150 => (some ((t150.length : Int) == 0))) else (none))) else (none))) else (none))) else (none)) else (none)) else (none)) else (none)) else (none)) else (none)) else (none)) else (none)) else (none)))))))))) = some r := h
  clear h
  replace H := Option.bind_eq_some_iff.mp H
  obtain ⟨t110, A10, H⟩ := H
  replace H : ((weak_Set.f t110 0 3 0).bind fun bt113 => ((weak_Set.f bt113.1 1 4 0).bind fun bt118 => ((weak_Set.f bt118.1 2 3 (-1)).bind fun bt123 => ((weak_Load.f bt123.1 0).bind fun bt128 => ((weak_Clear.f bt123.1 (([3, 0] : List Int))).bind fun bt133 => ((weak_Load.f bt133.1 0).bind fun bt139 => ((weak_Set.f bt123.1 3 1 0).bind fun bt141 => (if bt113.2.2 = 0 then (if bt123.2.1 = 0 then (if bt128.1 = 3 then (if bt128.2 = 0 then (if (bt133.2.length : Int) = 1 then (if 0 < (bt133.2.length : Int) then (if (rd bt133.2 0) = 0 then (if bt139.2 = 9 then (if bt141.2.2 = 7 then ((weak_Naming.f bt133.1 3).bind fun t147 => (if t147 = 2 then ((weak_Intact.f bt133.1 3).bind fun t148 => (if t148 = 0 then ((weak_Intact.f bt123.1 3).bind fun t149 => (if t149 = 2 then ((weak_New.f 7).bind fun t150 => (some ((t150.length : Int) == 0))) else (none))) else (none))) else (none))) else (none)) else (none)) else (none)) else (none)) else (none)) else (none)) else (none)) else (none)) else (none))))))))) = some r := H
  have A1 := Aside0.mk A10
  clear A10
  replace H := Option.bind_eq_some_iff.mp H
  obtain ⟨⟨t113, t116, t117⟩, A20, H⟩ := H
  replace H : ((weak_Set.f t113 1 4 0).bind fun bt118 => ((weak_Set.f bt118.1 2 3 (-1)).bind fun bt123 => ((weak_Load.f bt123.1 0).bind fun bt128 => ((weak_Clear.f bt123.1 (([3, 0] : List Int))).bind fun bt133 => ((weak_Load.f bt133.1 0).bind fun bt139 => ((weak_Set.f bt123.1 3 1 0).bind fun bt141 => (if t117 = 0 then (if bt123.2.1 = 0 then (if bt128.1 = 3 then (if bt128.2 = 0 then (if (bt133.2.length : Int) = 1 then (if 0 < (bt133.2.length : Int) then (if (rd bt133.2 0) = 0 then (if bt139.2 = 9 then (if bt141.2.2 = 7 then ((weak_Naming.f bt133.1 3).bind fun t147 => (if t147 = 2 then ((weak_Intact.f bt133.1 3).bind fun t148 => (if t148 = 0 then ((weak_Intact.f bt123.1 3).bind fun t149 => (if t149 = 2 then ((weak_New.f 7).bind fun t150 => (some ((t150.length : Int) == 0))) else (none))) else (none))) else (none))) else (none)) else (none)) else (none)) else (none)) else (none)) else (none)) else (none)) else (none)) else (none)))))))) = some r := H
  have A2 := Aside0.mk A20
  clear A20
  replace H := Option.bind_eq_some_iff.mp H
  obtain ⟨⟨t118, t121, t122⟩, A30, H⟩ := H
  replace H : ((weak_Set.f t118 2 3 (-1)).bind fun bt123 => ((weak_Load.f bt123.1 0).bind fun bt128 => ((weak_Clear.f bt123.1 (([3, 0] : List Int))).bind fun bt133 => ((weak_Load.f bt133.1 0).bind fun bt139 => ((weak_Set.f bt123.1 3 1 0).bind fun bt141 => (if t117 = 0 then (if bt123.2.1 = 0 then (if bt128.1 = 3 then (if bt128.2 = 0 then (if (bt133.2.length : Int) = 1 then (if 0 < (bt133.2.length : Int) then (if (rd bt133.2 0) = 0 then (if bt139.2 = 9 then (if bt141.2.2 = 7 then ((weak_Naming.f bt133.1 3).bind fun t147 => (if t147 = 2 then ((weak_Intact.f bt133.1 3).bind fun t148 => (if t148 = 0 then ((weak_Intact.f bt123.1 3).bind fun t149 => (if t149 = 2 then ((weak_New.f 7).bind fun t150 => (some ((t150.length : Int) == 0))) else (none))) else (none))) else (none))) else (none)) else (none)) else (none)) else (none)) else (none)) else (none)) else (none)) else (none)) else (none))))))) = some r := H
  have A3 := Aside0.mk A30
  clear A30
  replace H := Option.bind_eq_some_iff.mp H
  obtain ⟨⟨t123, t126, t127⟩, A40, H⟩ := H
  replace H : ((weak_Load.f t123 0).bind fun bt128 => ((weak_Clear.f t123 (([3, 0] : List Int))).bind fun bt133 => ((weak_Load.f bt133.1 0).bind fun bt139 => ((weak_Set.f t123 3 1 0).bind fun bt141 => (if t117 = 0 then (if t126 = 0 then (if bt128.1 = 3 then (if bt128.2 = 0 then (if (bt133.2.length : Int) = 1 then (if 0 < (bt133.2.length : Int) then (if (rd bt133.2 0) = 0 then (if bt139.2 = 9 then (if bt141.2.2 = 7 then ((weak_Naming.f bt133.1 3).bind fun t147 => (if t147 = 2 then ((weak_Intact.f bt133.1 3).bind fun t148 => (if t148 = 0 then ((weak_Intact.f t123 3).bind fun t149 => (if t149 = 2 then ((weak_New.f 7).bind fun t150 => (some ((t150.length : Int) == 0))) else (none))) else (none))) else (none))) else (none)) else (none)) else (none)) else (none)) else (none)) else (none)) else (none)) else (none)) else (none)))))) = some r := H
  have A4 := Aside0.mk A40
  clear A40
  replace H := Option.bind_eq_some_iff.mp H
  obtain ⟨⟨t128, t129⟩, A50, H⟩ := H
  replace H : ((weak_Clear.f t123 (([3, 0] : List Int))).bind fun bt133 => ((weak_Load.f bt133.1 0).bind fun bt139 => ((weak_Set.f t123 3 1 0).bind fun bt141 => (if t117 = 0 then (if t126 = 0 then (if t128 = 3 then (if t129 = 0 then (if (bt133.2.length : Int) = 1 then (if 0 < (bt133.2.length : Int) then (if (rd bt133.2 0) = 0 then (if bt139.2 = 9 then (if bt141.2.2 = 7 then ((weak_Naming.f bt133.1 3).bind fun t147 => (if t147 = 2 then ((weak_Intact.f bt133.1 3).bind fun t148 => (if t148 = 0 then ((weak_Intact.f t123 3).bind fun t149 => (if t149 = 2 then ((weak_New.f 7).bind fun t150 => (some ((t150.length : Int) == 0))) else (none))) else (none))) else (none))) else (none)) else (none)) else (none)) else (none)) else (none)) else (none)) else (none)) else (none)) else (none))))) = some r := H
  have A5 := Aside0.mk A50
  clear A50
  obtain ⟨y130, hy130⟩ : ∃ y_ : List Int, y_ = (([3, 0] : List Int)) := ⟨_, rfl⟩
  replace H : ((weak_Clear.f t123 y130).bind fun bt133 => ((weak_Load.f bt133.1 0).bind fun bt139 => ((weak_Set.f t123 3 1 0).bind fun bt141 => (if t117 = 0 then (if t126 = 0 then (if t128 = 3 then (if t129 = 0 then (if (bt133.2.length : Int) = 1 then (if 0 < (bt133.2.length : Int) then (if (rd bt133.2 0) = 0 then (if bt139.2 = 9 then (if bt141.2.2 = 7 then ((weak_Naming.f bt133.1 3).bind fun t147 => (if t147 = 2 then ((weak_Intact.f bt133.1 3).bind fun t148 => (if t148 = 0 then ((weak_Intact.f t123 3).bind fun t149 => (if t149 = 2 then ((weak_New.f 7).bind fun t150 => (some ((t150.length : Int) == 0))) else (none))) else (none))) else (none))) else (none)) else (none)) else (none)) else (none)) else (none)) else (none)) else (none)) else (none)) else (none))))) = some r := by first | (rw [hy130]; with_reducible exact H) | (have H2_ := (Option.bind_some _ _).symm.trans H; rw [hy130]; with_reducible exact H2_) | (have H2_ := (Option.bind_some _ _).symm.trans H; with_reducible exact H2_) | with_reducible exact H | (rw [hy130]; exact H) | exact H
  have Ny130 := Aside0.mk hy130
  clear hy130
  replace H := Option.bind_eq_some_iff.mp H
  obtain ⟨⟨t133, t136⟩, A60, H⟩ := H
  replace H : ((weak_Load.f t133 0).bind fun bt139 => ((weak_Set.f t123 3 1 0).bind fun bt141 => (if t117 = 0 then (if t126 = 0 then (if t128 = 3 then (if t129 = 0 then (if (t136.length : Int) = 1 then (if 0 < (t136.length : Int) then (if (rd t136 0) = 0 then (if bt139.2 = 9 then (if bt141.2.2 = 7 then ((weak_Naming.f t133 3).bind fun t147 => (if t147 = 2 then ((weak_Intact.f t133 3).bind fun t148 => (if t148 = 0 then ((weak_Intact.f t123 3).bind fun t149 => (if t149 = 2 then ((weak_New.f 7).bind fun t150 => (some ((t150.length : Int) == 0))) else (none))) else (none))) else (none))) else (none)) else (none)) else (none)) else (none)) else (none)) else (none)) else (none)) else (none)) else (none)))) = some r := H
  have A6 := Aside0.mk A60
  clear A60
  replace H := Option.bind_eq_some_iff.mp H
  obtain ⟨⟨t139, t140⟩, A70, H⟩ := H
  replace H : ((weak_Set.f t123 3 1 0).bind fun bt141 => (if t117 = 0 then (if t126 = 0 then (if t128 = 3 then (if t129 = 0 then (if (t136.length : Int) = 1 then (if 0 < (t136.length : Int) then (if (rd t136 0) = 0 then (if t140 = 9 then (if bt141.2.2 = 7 then ((weak_Naming.f t133 3).bind fun t147 => (if t147 = 2 then ((weak_Intact.f t133 3).bind fun t148 => (if t148 = 0 then ((weak_Intact.f t123 3).bind fun t149 => (if t149 = 2 then ((weak_New.f 7).bind fun t150 => (some ((t150.length : Int) == 0))) else (none))) else (none))) else (none))) else (none)) else (none)) else (none)) else (none)) else (none)) else (none)) else (none)) else (none)) else (none))) = some r := H
  have A7 := Aside0.mk A70
  clear A70
  replace H := Option.bind_eq_some_iff.mp H
  obtain ⟨⟨t141, t144, t145⟩, A80, H⟩ := H
  replace H : (if t117 = 0 then (if t126 = 0 then (if t128 = 3 then (if t129 = 0 then (if (t136.length : Int) = 1 then (if 0 < (t136.length : Int) then (if (rd t136 0) = 0 then (if t140 = 9 then (if t145 = 7 then ((weak_Naming.f t133 3).bind fun t147 => (if t147 = 2 then ((weak_Intact.f t133 3).bind fun t148 => (if t148 = 0 then ((weak_Intact.f t123 3).bind fun t149 => (if t149 = 2 then ((weak_New.f 7).bind fun t150 => (some ((t150.length : Int) == 0))) else (none))) else (none))) else (none))) else (none)) else (none)) else (none)) else (none)) else (none)) else (none)) else (none)) else (none)) else (none)) = some r := H
  have A8 := Aside0.mk A80
  clear A80
  by_cases c9 : t117 = 0
  · rw [if_pos c9] at H
    have c9b0 : (t117 == 0) = true := beq_iff_eq.mpr c9
    have c9b1 : (t117 != 0) = false := bne_eq_false_iff_eq.mpr c9
    clear c9
    by_cases c10 : t126 = 0
    · rw [if_pos c10] at H
      have c10b0 : (t126 == 0) = true := beq_iff_eq.mpr c10
      have c10b1 : (t126 != 0) = false := bne_eq_false_iff_eq.mpr c10
      clear c10
      by_cases c11 : t128 = 3
      · rw [if_pos c11] at H
        have c11b0 : (t128 == 3) = true := beq_iff_eq.mpr c11
        have c11b1 : (t128 != 3) = false := bne_eq_false_iff_eq.mpr c11
        clear c11
        by_cases c12 : t129 = 0
        · rw [if_pos c12] at H
          have c12b0 : (t129 == 0) = true := beq_iff_eq.mpr c12
          have c12b1 : (t129 != 0) = false := bne_eq_false_iff_eq.mpr c12
          clear c12
          by_cases c13 : (t136.length : Int) = 1
          · rw [if_pos c13] at H
            have c13b0 : ((t136.length : Int) == 1) = true := beq_iff_eq.mpr c13
            have c13b1 : ((t136.length : Int) != 1) = false := bne_eq_false_iff_eq.mpr c13
            clear c13
            by_cases c14 : 0 < (t136.length : Int)
            · rw [if_pos c14] at H
              have c14b0 : decide (0 < (t136.length : Int)) = true := decide_eq_true c14
              have c14b1 : decide (0 < t136.length) = true := decide_eq_true (by omega)
              clear c14
              by_cases c15 : (rd t136 0) = 0
              · rw [if_pos c15] at H
                have c15b0 : ((rd t136 0) == 0) = true := beq_iff_eq.mpr c15
                have c15b1 : ((rd t136 0) != 0) = false := bne_eq_false_iff_eq.mpr c15
                clear c15
                by_cases c16 : t140 = 9
                · rw [if_pos c16] at H
                  have c16b0 : (t140 == 9) = true := beq_iff_eq.mpr c16
                  have c16b1 : (t140 != 9) = false := bne_eq_false_iff_eq.mpr c16
                  clear c16
                  by_cases c17 : t145 = 7
                  · rw [if_pos c17] at H
                    have c17b0 : (t145 == 7) = true := beq_iff_eq.mpr c17
                    have c17b1 : (t145 != 7) = false := bne_eq_false_iff_eq.mpr c17
                    clear c17
                    replace H := Option.bind_eq_some_iff.mp H
                    obtain ⟨t147, A180, H⟩ := H
                    replace H : (if t147 = 2 then ((weak_Intact.f t133 3).bind fun t148 => (if t148 = 0 then ((weak_Intact.f t123 3).bind fun t149 => (if t149 = 2 then ((weak_New.f 7).bind fun t150 => (some ((t150.length : Int) == 0))) else (none))) else (none))) else (none)) = some r := H
                    have A18 := Aside0.mk A180
                    clear A180
                    by_cases c19 : t147 = 2
                    · rw [if_pos c19] at H
                      have c19b0 : (t147 == 2) = true := beq_iff_eq.mpr c19
                      have c19b1 : (t147 != 2) = false := bne_eq_false_iff_eq.mpr c19
                      clear c19
                      replace H := Option.bind_eq_some_iff.mp H
                      obtain ⟨t148, A200, H⟩ := H
                      replace H : (if t148 = 0 then ((weak_Intact.f t123 3).bind fun t149 => (if t149 = 2 then ((weak_New.f 7).bind fun t150 => (some ((t150.length : Int) == 0))) else (none))) else (none)) = some r := H
                      have A20 := Aside0.mk A200
                      clear A200
                      by_cases c21 : t148 = 0
                      · rw [if_pos c21] at H
                        have c21b0 : (t148 == 0) = true := beq_iff_eq.mpr c21
                        have c21b1 : (t148 != 0) = false := bne_eq_false_iff_eq.mpr c21
                        clear c21
                        replace H := Option.bind_eq_some_iff.mp H
                        obtain ⟨t149, A220, H⟩ := H
                        replace H : (if t149 = 2 then ((weak_New.f 7).bind fun t150 => (some ((t150.length : Int) == 0))) else (none)) = some r := H
                        have A22 := Aside0.mk A220
                        clear A220
                        by_cases c23 : t149 = 2
                        · rw [if_pos c23] at H
                          have c23b0 : (t149 == 2) = true := beq_iff_eq.mpr c23
                          have c23b1 : (t149 != 2) = false := bne_eq_false_iff_eq.mpr c23
                          clear c23
                          replace H := Option.bind_eq_some_iff.mp H
                          obtain ⟨t150, A240, H⟩ := H
                          replace H : (some ((t150.length : Int) == 0)) = some r := H
                          have A24 := Aside0.mk A240
                          clear A240
                          obtain rfl := Option.some.inj H
                          go_enter Try.func6, Try.ntmps6
                          go_wp2_with (first | ((with_reducible refine gate_callee (f := 13) rfl ?_); refine goesL_ (some 16) rfl rfl Try.func13 (by kernel_rfl) rfl #[.int .i64 3] rfl (by (try simp only [List.map_toArray, List.map_cons, List.map_nil]); first | done | rfl | (simp only [List.length_drop, List.length_take]; rfl)) ?_; (with_reducible refine (weak_New.calls 3 t110 _ A1.out).mono ?_); rintro e w25 ⟨v111, rfl, ho0, hb⟩; refine ⟨_, rfl, ?_⟩; have n0_ := Aside0.mk (Kd.R_lower ho0 (below_size (by repeat (first | (with_reducible first | exact HB.out | apply below_alloc | apply pw_below_drewN | apply below_drew1) | exact HB.out)))); have n1_ := Aside0.mk (below_step (by repeat (first | (with_reducible first | exact HB.out | apply below_alloc | apply pw_below_drewN | apply below_drew1) | exact HB.out)) hb); clear HB; have HO112 := n0_; have HB := n1_; clear n0_ n1_; (try clear hb); (try clear hb2); (try clear hk); (try clear hi); (try clear ho0); obtain ⟨Ao26, co26, eo26⟩ := Kd.R_slice HO112.out; subst eo26) | ((with_reducible refine gate_callee (f := 11) rfl ?_); refine goesL_ (some 17) rfl rfl Try.func11 (by kernel_rfl) rfl #[.slice Ao26 t110.length co26, .int .i64 0, .int .i64 3, .int .i64 0] rfl (by (try simp only [List.map_toArray, List.map_cons, List.map_nil]); first | done | rfl | (simp only [List.length_drop, List.length_take]; rfl)) ?_; (with_reducible refine (weak_Set.calls (fun k_ => some k_ = (.slice Ao26 t110.length co26 : Value).ownBlock) _ _ t110 0 3 0 t113 t116 t117 _ ?side1 A2.out).mono ?_); (case side1 => exact Kd.R_V (Kd.R_tight rfl (HO112.out))); rintro e w27 ⟨v114, rfl, ho0, hb⟩; refine ⟨_, rfl, ?_⟩; have n0_ := Aside0.mk (Kd.R_below (by (with_reducible repeat (first | apply Kd.R_alloc | apply Kd.R_drewN | apply Kd.R_drew)); exact HO112.out) hb); have n1_ := Aside0.mk (Kd.V_lower (Kd.V_mono (ok' := fun k_ => True) ho0 (fun k_ hk_ => trivial)) (below_size (by repeat (first | (with_reducible first | exact HB.out | apply below_alloc | apply pw_below_drewN | apply below_drew1) | exact HB.out)))); have n2_ := Aside0.mk (below_step (by repeat (first | (with_reducible first | exact HB.out | apply below_alloc | apply pw_below_drewN | apply below_drew1) | exact HB.out)) hb); clear HO112; clear HB; have HO112 := n0_; have HO115 := n1_; have HB := n2_; clear n0_ n1_ n2_; (try clear hb); (try clear hb2); (try clear hk); (try clear hi); (try clear ho0); obtain ⟨Ao28, co28, eo28⟩ := Kd.V_slice HO115.out; subst eo28) | ((with_reducible refine gate_callee (f := 11) rfl ?_); refine goesL_ (some 23) rfl rfl Try.func11 (by kernel_rfl) rfl #[.slice Ao28 t113.length co28, .int .i64 1, .int .i64 4, .int .i64 0] rfl (by (try simp only [List.map_toArray, List.map_cons, List.map_nil]); first | done | rfl | (simp only [List.length_drop, List.length_take]; rfl)) ?_; (with_reducible refine (weak_Set.calls (fun k_ => True) _ _ t113 1 4 0 t118 t121 t122 _ ?side1 A3.out).mono ?_); (case side1 => exact HO115.out); rintro e w29 ⟨v119, rfl, ho0, hb⟩; refine ⟨_, rfl, ?_⟩; have n0_ := Aside0.mk (Kd.R_below (by (with_reducible repeat (first | apply Kd.R_alloc | apply Kd.R_drewN | apply Kd.R_drew)); exact HO112.out) hb); have n1_ := Aside0.mk (Kd.V_below (by (with_reducible repeat (first | apply Kd.V_alloc | apply Kd.V_drewN | apply Kd.V_drew)); exact HO115.out) hb); have n2_ := Aside0.mk (Kd.V_lower (Kd.V_mono (ok' := fun k_ => True) ho0 (fun k_ hk_ => trivial)) (below_size (by repeat (first | (with_reducible first | exact HB.out | apply below_alloc | apply pw_below_drewN | apply below_drew1) | exact HB.out)))); have n3_ := Aside0.mk (below_step (by repeat (first | (with_reducible first | exact HB.out | apply below_alloc | apply pw_below_drewN | apply below_drew1) | exact HB.out)) hb); clear HO112; clear HO115; clear HB; have HO112 := n0_; have HO115 := n1_; have HO120 := n2_; have HB := n3_; clear n0_ n1_ n2_ n3_; (try clear hb); (try clear hb2); (try clear hk); (try clear hi); (try clear ho0); obtain ⟨Ao30, co30, eo30⟩ := Kd.V_slice HO120.out; subst eo30) | ((with_reducible refine gate_callee (f := 11) rfl ?_); refine goesL_ (some 29) rfl rfl Try.func11 (by kernel_rfl) rfl #[.slice Ao30 t118.length co30, .int .i64 2, .int .i64 3, .int .i64 (-1)] rfl (by (try simp only [List.map_toArray, List.map_cons, List.map_nil]); first | done | rfl | (simp only [List.length_drop, List.length_take]; rfl)) ?_; (with_reducible refine (weak_Set.calls (fun k_ => True) _ _ t118 2 3 (-1) t123 t126 t127 _ ?side1 A4.out).mono ?_); (case side1 => exact HO120.out); rintro e w31 ⟨v124, rfl, ho0, hb⟩; refine ⟨_, rfl, ?_⟩; have n0_ := Aside0.mk (Kd.R_below (by (with_reducible repeat (first | apply Kd.R_alloc | apply Kd.R_drewN | apply Kd.R_drew)); exact HO112.out) hb); have n1_ := Aside0.mk (Kd.V_below (by (with_reducible repeat (first | apply Kd.V_alloc | apply Kd.V_drewN | apply Kd.V_drew)); exact HO115.out) hb); have n2_ := Aside0.mk (Kd.V_below (by (with_reducible repeat (first | apply Kd.V_alloc | apply Kd.V_drewN | apply Kd.V_drew)); exact HO120.out) hb); have n3_ := Aside0.mk (Kd.V_lower (Kd.V_mono (ok' := fun k_ => True) ho0 (fun k_ hk_ => trivial)) (below_size (by repeat (first | (with_reducible first | exact HB.out | apply below_alloc | apply pw_below_drewN | apply below_drew1) | exact HB.out)))); have n4_ := Aside0.mk (below_step (by repeat (first | (with_reducible first | exact HB.out | apply below_alloc | apply pw_below_drewN | apply below_drew1) | exact HB.out)) hb); clear HO112; clear HO115; clear HO120; clear HB; have HO112 := n0_; have HO115 := n1_; have HO120 := n2_; have HO125 := n3_; have HB := n4_; clear n0_ n1_ n2_ n3_ n4_; (try clear hb); (try clear hb2); (try clear hk); (try clear hi); (try clear ho0); obtain ⟨Ao32, co32, eo32⟩ := Kd.V_slice HO125.out; subst eo32) | ((with_reducible refine gate_callee (f := 12) rfl ?_); refine goesL_ (some 35) rfl rfl Try.func12 (by kernel_rfl) rfl #[.slice Ao32 t123.length co32, .int .i64 0] rfl (by (try simp only [List.map_toArray, List.map_cons, List.map_nil]); first | done | rfl | (simp only [List.length_drop, List.length_take]; rfl)) ?_; (with_reducible refine (weak_Load.calls _ _ t123 0 t128 t129 _ ?side1 ?side2 A5.out).mono ?_); (case side1 => repeat (first | exact (Kd.V_reads' HO125.out).2.2 | (with_reducible refine Kd.C_alloc ?_ _) | (with_reducible refine Kd.C_drewN ?_ _) | (with_reducible refine Kd.C_drew ?_))); (case side2 => exact (Kd.V_reads' HO125.out).2.1); rintro e w' ⟨rfl, ⟨nd, rfl⟩⟩; refine ⟨_, rfl, ?_⟩) | ((with_reducible refine gate_dst (N := 40) rfl ?_); (try (refine gate_guard (by rfl) ?_; dsimp only)); refine Kd.R_lit (Kd.int .i64) _ 3 ?hg (N := 40) ?hd (xs := ([3, 0] : List Int)) (inner := [.int .i64 3, .int .i64 0]) (ok := fun _ => True) (okp := fun _ => True) ?hr ?hp (fun _ hk => hk) trivial (Below.refl _ _) (Nat.le_refl _) (by simp) ?_; (case hd => rfl); (case hg => rfl); (case hr => first | (go_simp; done) | (go_simp; rfl)); (case hp => exact (Reps.one (show Kd.M (Kd.int .i64) _ _ _ 3 [.int .i64 3] from rfl) (Reps.one (show Kd.M (Kd.int .i64) _ _ _ 0 [.int .i64 0] from rfl) (Reps.none _ _)))); intro v131 w33 ho34 hb hg_ hnew_; clear hg_ hnew_; (first | rw [← Ny130.out] at ho34 | (simp only [Int.reduceToNat] at ho34; rw [← Ny130.out] at ho34)); have n0_ := Aside0.mk (Kd.R_below (by (with_reducible repeat (first | apply Kd.R_alloc | apply Kd.R_drewN | apply Kd.R_drew)); exact HO112.out) hb); have n1_ := Aside0.mk (Kd.V_elder' (by (with_reducible repeat (first | apply Kd.V_alloc | apply Kd.V_drewN | apply Kd.V_drew)); exact HO115.out) (Kd.R_base ho34) hb); have n2_ := Aside0.mk (Kd.V_elder' (by (with_reducible repeat (first | apply Kd.V_alloc | apply Kd.V_drewN | apply Kd.V_drew)); exact HO120.out) (Kd.R_base ho34) hb); have n3_ := Aside0.mk (Kd.V_elder' (by (with_reducible repeat (first | apply Kd.V_alloc | apply Kd.V_drewN | apply Kd.V_drew)); exact HO125.out) (Kd.R_base ho34) hb); have n4_ := Aside0.mk (Kd.R_lower ho34 (below_size (by repeat (first | (with_reducible first | exact HB.out | apply below_alloc | apply pw_below_drewN | apply below_drew1) | exact HB.out)))); have n5_ := Aside0.mk (below_step (by repeat (first | (with_reducible first | exact HB.out | apply below_alloc | apply pw_below_drewN | apply below_drew1) | exact HB.out)) hb); clear HO112; clear HO115; clear HO120; clear HO125; clear HB; have HO112 := n0_; have HO115 := n1_; have HO120 := n2_; have HO125 := n3_; have HO132 := n4_; have HB := n5_; clear n0_ n1_ n2_ n3_ n4_ n5_; clear hb ho34; obtain ⟨Ao35, co35, eo35⟩ := Kd.R_slice HO132.out; subst eo35) | ((with_reducible refine gate_callee (f := 7) rfl ?_); refine goesL_ (some 41) rfl rfl Try.func7 (by kernel_rfl) rfl #[.slice Ao32 t123.length co32, .slice Ao35 y130.length co35] rfl (by (try simp only [List.map_toArray, List.map_cons, List.map_nil]); first | done | rfl | (simp only [List.length_drop, List.length_take]; rfl)) ?_; (with_reducible refine (weak_Clear.calls _ _ t123 _ _ y130 t133 t136 _ ?side1 ?side2 ?side3 ?side4 A6.out).mono ?_); (case side1 => repeat (first | exact (Kd.V_reads' HO125.out).2.2 | (with_reducible refine Kd.C_alloc ?_ _) | (with_reducible refine Kd.C_drewN ?_ _) | (with_reducible refine Kd.C_drew ?_))); (case side2 => exact (Kd.V_reads' HO125.out).2.1); (case side3 => repeat (first | exact (Kd.R_reads' HO132.out).2.2 | (with_reducible refine Kd.C_alloc ?_ _) | (with_reducible refine Kd.C_drewN ?_ _) | (with_reducible refine Kd.C_drew ?_))); (case side4 => exact (Kd.R_reads' HO132.out).2.1); rintro e w36 ⟨v134, v137, rfl, ho0, ho1, hb⟩; refine ⟨_, rfl, ?_⟩; have n0_ := Aside0.mk (Kd.R_below (by (with_reducible repeat (first | apply Kd.R_alloc | apply Kd.R_drewN | apply Kd.R_drew)); exact HO112.out) hb); have n1_ := Aside0.mk (Kd.V_below (by (with_reducible repeat (first | apply Kd.V_alloc | apply Kd.V_drewN | apply Kd.V_drew)); exact HO115.out) hb); have n2_ := Aside0.mk (Kd.V_below (by (with_reducible repeat (first | apply Kd.V_alloc | apply Kd.V_drewN | apply Kd.V_drew)); exact HO120.out) hb); have n3_ := Aside0.mk (Kd.V_below (by (with_reducible repeat (first | apply Kd.V_alloc | apply Kd.V_drewN | apply Kd.V_drew)); exact HO125.out) hb); have n4_ := Aside0.mk (Kd.R_below (by (with_reducible repeat (first | apply Kd.R_alloc | apply Kd.R_drewN | apply Kd.R_drew)); exact HO132.out) hb); have n5_ := Aside0.mk (Kd.V_lower (Kd.V_mono (ok' := fun k_ => some k_ ≠ (.slice Ao26 t110.length co26 : Value).ownBlock ∧ some k_ ≠ (.slice Ao35 y130.length co35 : Value).ownBlock) ho0 (fun k_ hk_ => ⟨(Kd.fresh' (Kd.R_lt (by (with_reducible repeat (first | apply Kd.R_alloc | apply Kd.R_drewN | apply Kd.R_drew)); exact HO112.out)) k_ hk_), (Kd.fresh' (Kd.R_lt (by (with_reducible repeat (first | apply Kd.R_alloc | apply Kd.R_drewN | apply Kd.R_drew)); exact HO132.out)) k_ hk_)⟩)) (below_size (by repeat (first | (with_reducible first | exact HB.out | apply below_alloc | apply pw_below_drewN | apply below_drew1) | exact HB.out)))); have n6_ := Aside0.mk (Kd.V_lower (Kd.V_mono (ok' := fun k_ => some k_ ≠ (.slice Ao26 t110.length co26 : Value).ownBlock ∧ some k_ ≠ (.slice Ao35 y130.length co35 : Value).ownBlock) ho1 (fun k_ hk_ => ⟨(Kd.fresh' (Kd.R_lt (by (with_reducible repeat (first | apply Kd.R_alloc | apply Kd.R_drewN | apply Kd.R_drew)); exact HO112.out)) k_ hk_), (Kd.fresh' (Kd.R_lt (by (with_reducible repeat (first | apply Kd.R_alloc | apply Kd.R_drewN | apply Kd.R_drew)); exact HO132.out)) k_ hk_)⟩)) (below_size (by repeat (first | (with_reducible first | exact HB.out | apply below_alloc | apply pw_below_drewN | apply below_drew1) | exact HB.out)))); have n7_ := Aside0.mk (below_step (by repeat (first | (with_reducible first | exact HB.out | apply below_alloc | apply pw_below_drewN | apply below_drew1) | exact HB.out)) hb); clear HO112; clear HO115; clear HO120; clear HO125; clear HO132; clear HB; have HO112 := n0_; have HO115 := n1_; have HO120 := n2_; have HO125 := n3_; have HO132 := n4_; have HO135 := n5_; have HO138 := n6_; have HB := n7_; clear n0_ n1_ n2_ n3_ n4_ n5_ n6_ n7_; (try clear hb); (try clear hb2); (try clear hk); (try clear hi); (try clear ho0); (try clear ho1); obtain ⟨Ao37, co37, eo37⟩ := Kd.V_slice HO135.out; subst eo37) | ((with_reducible refine gate_callee (f := 12) rfl ?_); refine goesL_ (some 46) rfl rfl Try.func12 (by kernel_rfl) rfl #[.slice Ao37 t133.length co37, .int .i64 0] rfl (by (try simp only [List.map_toArray, List.map_cons, List.map_nil]); first | done | rfl | (simp only [List.length_drop, List.length_take]; rfl)) ?_; (with_reducible refine (weak_Load.calls _ _ t133 0 t139 t140 _ ?side1 ?side2 A7.out).mono ?_); (case side1 => repeat (first | exact (Kd.V_reads' HO135.out).2.2 | (with_reducible refine Kd.C_alloc ?_ _) | (with_reducible refine Kd.C_drewN ?_ _) | (with_reducible refine Kd.C_drew ?_))); (case side2 => exact (Kd.V_reads' HO135.out).2.1); rintro e w' ⟨rfl, ⟨nd, rfl⟩⟩; refine ⟨_, rfl, ?_⟩) | ((with_reducible refine gate_callee (f := 11) rfl ?_); refine goesL_ (some 51) rfl rfl Try.func11 (by kernel_rfl) rfl #[.slice Ao32 t123.length co32, .int .i64 3, .int .i64 1, .int .i64 0] rfl (by (try simp only [List.map_toArray, List.map_cons, List.map_nil]); first | done | rfl | (simp only [List.length_drop, List.length_take]; rfl)) ?_; (with_reducible refine (weak_Set.calls (fun k_ => (True ∧ some k_ ≠ (.slice Ao35 y130.length co35 : Value).ownBlock)) _ _ t123 3 1 0 t141 t144 t145 _ ?side1 A8.out).mono ?_); (case side1 => exact HO125.out); rintro e w38 ⟨v142, rfl, ho0, hb⟩; refine ⟨_, rfl, ?_⟩; have n0_ := Aside0.mk (Kd.R_below (by (with_reducible repeat (first | apply Kd.R_alloc | apply Kd.R_drewN | apply Kd.R_drew)); exact HO112.out) hb); have n1_ := Aside0.mk (Kd.V_below (by (with_reducible repeat (first | apply Kd.V_alloc | apply Kd.V_drewN | apply Kd.V_drew)); exact HO115.out) hb); have n2_ := Aside0.mk (Kd.V_below (by (with_reducible repeat (first | apply Kd.V_alloc | apply Kd.V_drewN | apply Kd.V_drew)); exact HO120.out) hb); have n3_ := Aside0.mk (Kd.V_below (by (with_reducible repeat (first | apply Kd.V_alloc | apply Kd.V_drewN | apply Kd.V_drew)); exact HO125.out) hb); have n4_ := Aside0.mk (Kd.R_below (by (with_reducible repeat (first | apply Kd.R_alloc | apply Kd.R_drewN | apply Kd.R_drew)); exact HO132.out) hb); have n5_ := Aside0.mk (Kd.V_below (by (with_reducible repeat (first | apply Kd.V_alloc | apply Kd.V_drewN | apply Kd.V_drew)); exact HO135.out) hb); have n6_ := Aside0.mk (Kd.V_below (by (with_reducible repeat (first | apply Kd.V_alloc | apply Kd.V_drewN | apply Kd.V_drew)); exact HO138.out) hb); have n7_ := Aside0.mk (Kd.V_lower (Kd.V_mono (ok' := fun k_ => some k_ ≠ (.slice Ao35 y130.length co35 : Value).ownBlock) ho0 (fun k_ hk_ => Or.elim hk_ (fun hs_ => hs_.2) (fun hn_ => (Kd.fresh' (Kd.R_lt (by (with_reducible repeat (first | apply Kd.R_alloc | apply Kd.R_drewN | apply Kd.R_drew)); exact HO132.out)) k_ hn_)))) (below_size (by repeat (first | (with_reducible first | exact HB.out | apply below_alloc | apply pw_below_drewN | apply below_drew1) | exact HB.out)))); have n8_ := Aside0.mk (below_step (by repeat (first | (with_reducible first | exact HB.out | apply below_alloc | apply pw_below_drewN | apply below_drew1) | exact HB.out)) hb); clear HO112; clear HO115; clear HO120; clear HO125; clear HO132; clear HO135; clear HO138; clear HB; have HO112 := n0_; have HO115 := n1_; have HO120 := n2_; have HO125 := n3_; have HO132 := n4_; have HO135 := n5_; have HO138 := n6_; have HO143 := n7_; have HB := n8_; clear n0_ n1_ n2_ n3_ n4_ n5_ n6_ n7_ n8_; (try clear hb); (try clear hb2); (try clear hk); (try clear hi); (try clear ho0); obtain ⟨Ao39, co39, eo39⟩ := Kd.V_slice HO138.out; subst eo39; have p146 : 0 ≤ (0 : Int) := (by omega); have q146 : 0 < (t136.length : Int) := of_decide_eq_true (by first | (with_reducible assumption) | assumption); obtain ⟨ad146, e146, hx146_0⟩ := Kd.at_int (Kd.V_reads' HO138.out).2.2 0 p146 q146; cases e146; have qi146 : (0 < t136.length) = True := eq_true (by omega); (try rw [show ((0 : Int)).toNat = 0 from rfl] at hx146_0); (try rw [Addr.add_zero'] at hx146_0); replace p146 := eq_true p146; replace q146 := eq_true q146) | (go_at_call 10; (with_reducible refine (weak_Naming.calls _ _ t133 3 t147 _ ?side1 ?side2 A18.out).mono ?_); (case side1 => repeat (first | exact (Kd.V_reads' HO135.out).2.2 | (with_reducible refine Kd.C_alloc ?_ _) | (with_reducible refine Kd.C_drewN ?_ _) | (with_reducible refine Kd.C_drew ?_))); (case side2 => exact (Kd.V_reads' HO135.out).2.1); rintro e w40 ⟨rfl, hb⟩; have n0_ := Aside0.mk (Kd.R_below (by (with_reducible repeat (first | apply Kd.R_alloc | apply Kd.R_drewN | apply Kd.R_drew)); exact HO112.out) hb); have n1_ := Aside0.mk (Kd.V_below (by (with_reducible repeat (first | apply Kd.V_alloc | apply Kd.V_drewN | apply Kd.V_drew)); exact HO115.out) hb); have n2_ := Aside0.mk (Kd.V_below (by (with_reducible repeat (first | apply Kd.V_alloc | apply Kd.V_drewN | apply Kd.V_drew)); exact HO120.out) hb); have n3_ := Aside0.mk (Kd.V_below (by (with_reducible repeat (first | apply Kd.V_alloc | apply Kd.V_drewN | apply Kd.V_drew)); exact HO125.out) hb); have n4_ := Aside0.mk (Kd.R_below (by (with_reducible repeat (first | apply Kd.R_alloc | apply Kd.R_drewN | apply Kd.R_drew)); exact HO132.out) hb); have n5_ := Aside0.mk (Kd.V_below (by (with_reducible repeat (first | apply Kd.V_alloc | apply Kd.V_drewN | apply Kd.V_drew)); exact HO135.out) hb); have n6_ := Aside0.mk (Kd.V_below (by (with_reducible repeat (first | apply Kd.V_alloc | apply Kd.V_drewN | apply Kd.V_drew)); exact HO138.out) hb); have n7_ := Aside0.mk (Kd.V_below (by (with_reducible repeat (first | apply Kd.V_alloc | apply Kd.V_drewN | apply Kd.V_drew)); exact HO143.out) hb); have n8_ := Aside0.mk (below_step (by repeat (first | (with_reducible first | exact HB.out | apply below_alloc | apply pw_below_drewN | apply below_drew1) | exact HB.out)) hb); clear HO112; clear HO115; clear HO120; clear HO125; clear HO132; clear HO135; clear HO138; clear HO143; clear HB; have HO112 := n0_; have HO115 := n1_; have HO120 := n2_; have HO125 := n3_; have HO132 := n4_; have HO135 := n5_; have HO138 := n6_; have HO143 := n7_; have HB := n8_; clear n0_ n1_ n2_ n3_ n4_ n5_ n6_ n7_ n8_; (try clear hb); (try clear hb2); (try clear hk); (try clear hi)) | (go_at_call 8; (with_reducible refine (weak_Intact.calls _ _ t133 3 t148 _ ?side1 ?side2 A20.out).mono ?_); (case side1 => repeat (first | exact (Kd.V_reads' HO135.out).2.2 | (with_reducible refine Kd.C_alloc ?_ _) | (with_reducible refine Kd.C_drewN ?_ _) | (with_reducible refine Kd.C_drew ?_))); (case side2 => exact (Kd.V_reads' HO135.out).2.1); rintro e w41 ⟨rfl, hb⟩; have n0_ := Aside0.mk (Kd.R_below (by (with_reducible repeat (first | apply Kd.R_alloc | apply Kd.R_drewN | apply Kd.R_drew)); exact HO112.out) hb); have n1_ := Aside0.mk (Kd.V_below (by (with_reducible repeat (first | apply Kd.V_alloc | apply Kd.V_drewN | apply Kd.V_drew)); exact HO115.out) hb); have n2_ := Aside0.mk (Kd.V_below (by (with_reducible repeat (first | apply Kd.V_alloc | apply Kd.V_drewN | apply Kd.V_drew)); exact HO120.out) hb); have n3_ := Aside0.mk (Kd.V_below (by (with_reducible repeat (first | apply Kd.V_alloc | apply Kd.V_drewN | apply Kd.V_drew)); exact HO125.out) hb); have n4_ := Aside0.mk (Kd.R_below (by (with_reducible repeat (first | apply Kd.R_alloc | apply Kd.R_drewN | apply Kd.R_drew)); exact HO132.out) hb); have n5_ := Aside0.mk (Kd.V_below (by (with_reducible repeat (first | apply Kd.V_alloc | apply Kd.V_drewN | apply Kd.V_drew)); exact HO135.out) hb); have n6_ := Aside0.mk (Kd.V_below (by (with_reducible repeat (first | apply Kd.V_alloc | apply Kd.V_drewN | apply Kd.V_drew)); exact HO138.out) hb); have n7_ := Aside0.mk (Kd.V_below (by (with_reducible repeat (first | apply Kd.V_alloc | apply Kd.V_drewN | apply Kd.V_drew)); exact HO143.out) hb); have n8_ := Aside0.mk (below_step (by repeat (first | (with_reducible first | exact HB.out | apply below_alloc | apply pw_below_drewN | apply below_drew1) | exact HB.out)) hb); clear HO112; clear HO115; clear HO120; clear HO125; clear HO132; clear HO135; clear HO138; clear HO143; clear HB; have HO112 := n0_; have HO115 := n1_; have HO120 := n2_; have HO125 := n3_; have HO132 := n4_; have HO135 := n5_; have HO138 := n6_; have HO143 := n7_; have HB := n8_; clear n0_ n1_ n2_ n3_ n4_ n5_ n6_ n7_ n8_; (try clear hb); (try clear hb2); (try clear hk); (try clear hi)) | (go_at_call 8; (with_reducible refine (weak_Intact.calls _ _ t123 3 t149 _ ?side1 ?side2 A22.out).mono ?_); (case side1 => repeat (first | exact (Kd.V_reads' HO125.out).2.2 | (with_reducible refine Kd.C_alloc ?_ _) | (with_reducible refine Kd.C_drewN ?_ _) | (with_reducible refine Kd.C_drew ?_))); (case side2 => exact (Kd.V_reads' HO125.out).2.1); rintro e w42 ⟨rfl, hb⟩; have n0_ := Aside0.mk (Kd.R_below (by (with_reducible repeat (first | apply Kd.R_alloc | apply Kd.R_drewN | apply Kd.R_drew)); exact HO112.out) hb); have n1_ := Aside0.mk (Kd.V_below (by (with_reducible repeat (first | apply Kd.V_alloc | apply Kd.V_drewN | apply Kd.V_drew)); exact HO115.out) hb); have n2_ := Aside0.mk (Kd.V_below (by (with_reducible repeat (first | apply Kd.V_alloc | apply Kd.V_drewN | apply Kd.V_drew)); exact HO120.out) hb); have n3_ := Aside0.mk (Kd.V_below (by (with_reducible repeat (first | apply Kd.V_alloc | apply Kd.V_drewN | apply Kd.V_drew)); exact HO125.out) hb); have n4_ := Aside0.mk (Kd.R_below (by (with_reducible repeat (first | apply Kd.R_alloc | apply Kd.R_drewN | apply Kd.R_drew)); exact HO132.out) hb); have n5_ := Aside0.mk (Kd.V_below (by (with_reducible repeat (first | apply Kd.V_alloc | apply Kd.V_drewN | apply Kd.V_drew)); exact HO135.out) hb); have n6_ := Aside0.mk (Kd.V_below (by (with_reducible repeat (first | apply Kd.V_alloc | apply Kd.V_drewN | apply Kd.V_drew)); exact HO138.out) hb); have n7_ := Aside0.mk (Kd.V_below (by (with_reducible repeat (first | apply Kd.V_alloc | apply Kd.V_drewN | apply Kd.V_drew)); exact HO143.out) hb); have n8_ := Aside0.mk (below_step (by repeat (first | (with_reducible first | exact HB.out | apply below_alloc | apply pw_below_drewN | apply below_drew1) | exact HB.out)) hb); clear HO112; clear HO115; clear HO120; clear HO125; clear HO132; clear HO135; clear HO138; clear HO143; clear HB; have HO112 := n0_; have HO115 := n1_; have HO120 := n2_; have HO125 := n3_; have HO132 := n4_; have HO135 := n5_; have HO138 := n6_; have HO143 := n7_; have HB := n8_; clear n0_ n1_ n2_ n3_ n4_ n5_ n6_ n7_ n8_; (try clear hb); (try clear hb2); (try clear hk); (try clear hi)) | (go_at_call 13; (with_reducible refine (weak_New.calls 7 t150 _ A24.out).mono ?_); rintro e w43 ⟨v151, rfl, ho0, hb⟩; have n0_ := Aside0.mk (Kd.R_elder' (by (with_reducible repeat (first | apply Kd.R_alloc | apply Kd.R_drewN | apply Kd.R_drew)); exact HO112.out) (Kd.R_base ho0) hb); have n1_ := Aside0.mk (Kd.V_elder' (by (with_reducible repeat (first | apply Kd.V_alloc | apply Kd.V_drewN | apply Kd.V_drew)); exact HO115.out) (Kd.R_base ho0) hb); have n2_ := Aside0.mk (Kd.V_elder' (by (with_reducible repeat (first | apply Kd.V_alloc | apply Kd.V_drewN | apply Kd.V_drew)); exact HO120.out) (Kd.R_base ho0) hb); have n3_ := Aside0.mk (Kd.V_elder' (by (with_reducible repeat (first | apply Kd.V_alloc | apply Kd.V_drewN | apply Kd.V_drew)); exact HO125.out) (Kd.R_base ho0) hb); have n4_ := Aside0.mk (Kd.R_below (by (with_reducible repeat (first | apply Kd.R_alloc | apply Kd.R_drewN | apply Kd.R_drew)); exact HO132.out) hb); have n5_ := Aside0.mk (Kd.V_elder' (by (with_reducible repeat (first | apply Kd.V_alloc | apply Kd.V_drewN | apply Kd.V_drew)); exact HO135.out) (Kd.R_base ho0) hb); have n6_ := Aside0.mk (Kd.V_elder' (by (with_reducible repeat (first | apply Kd.V_alloc | apply Kd.V_drewN | apply Kd.V_drew)); exact HO138.out) (Kd.R_base ho0) hb); have n7_ := Aside0.mk (Kd.V_elder' (by (with_reducible repeat (first | apply Kd.V_alloc | apply Kd.V_drewN | apply Kd.V_drew)); exact HO143.out) (Kd.R_base ho0) hb); have n8_ := Aside0.mk (Kd.R_lower (Kd.R_new' ho0 (Kd.R_lt (by (with_reducible repeat (first | apply Kd.R_alloc | apply Kd.R_drewN | apply Kd.R_drew)); exact HO112.out))) (below_size (by repeat (first | (with_reducible first | exact HB.out | apply below_alloc | apply pw_below_drewN | apply below_drew1) | exact HB.out)))); have n9_ := Aside0.mk (below_step (by repeat (first | (with_reducible first | exact HB.out | apply below_alloc | apply pw_below_drewN | apply below_drew1) | exact HB.out)) hb); clear HO112; clear HO115; clear HO120; clear HO125; clear HO132; clear HO135; clear HO138; clear HO143; clear HB; have HO112 := n0_; have HO115 := n1_; have HO120 := n2_; have HO125 := n3_; have HO132 := n4_; have HO135 := n5_; have HO138 := n6_; have HO143 := n7_; have HO152 := n8_; have HB := n9_; clear n0_ n1_ n2_ n3_ n4_ n5_ n6_ n7_ n8_ n9_; (try clear hb); (try clear hb2); (try clear hk); (try clear hi); (try clear ho0); obtain ⟨Ao44, co44, eo44⟩ := Kd.R_slice HO152.out; subst eo44))
                          go_ret
                          exact ⟨by first | rfl | (simp [errW_none, errW_some] <;> rfl) | (simp [*, errW_none, errW_some] <;> rfl), by repeat (first | (with_reducible first | exact HB.out | apply below_alloc | apply pw_below_drewN | apply below_drew1) | exact HB.out)⟩
                        · rw [if_neg c23] at H
                          exact absurd H (by simp)
                      · rw [if_neg c21] at H
                        exact absurd H (by simp)
                    · rw [if_neg c19] at H
                      exact absurd H (by simp)
                  · rw [if_neg c17] at H
                    exact absurd H (by simp)
                · rw [if_neg c16] at H
                  exact absurd H (by simp)
              · rw [if_neg c15] at H
                exact absurd H (by simp)
            · rw [if_neg c14] at H
              exact absurd H (by simp)
          · rw [if_neg c13] at H
            exact absurd H (by simp)
        · rw [if_neg c12] at H
          exact absurd H (by simp)
      · rw [if_neg c11] at H
        exact absurd H (by simp)
    · rw [if_neg c10] at H
      exact absurd H (by simp)
  · rw [if_neg c9] at H
    exact absurd H (by simp)

/-! ### mortmainlaw09_WeakCounts: function 5 -/
mutual
def mortmainlaw09_WeakCounts.j0 : Nat → List (S40) → Int → Int → Int → Bool → Option (Bool)
  | 0, _, _, _, _, _ => none
  | k + 1, x0, x1, x2, x3, x22 => if x22 = true then ((mortmainlaw09_shown.f).bind fun t154 => (some t154)) else ((weak_Set.f x0 x1 x2 x3).bind fun bt155 => (if bt155.2.2 = 0 then (mortmainlaw09_WeakCounts.j1 k x0 x2 bt155.1 bt155.2.1 (bt155.2.1 == x2)) else (mortmainlaw09_WeakCounts.j1 k x0 x2 bt155.1 bt155.2.1 true)))
def mortmainlaw09_WeakCounts.j1 : Nat → List (S40) → Int → List (S40) → Int → Bool → Option (Bool)
  | 0, _, _, _, _, _ => none
  | k + 1, x0, x2, x9, x10, x39 => if x39 = true then ((weak_Naming.f x9 x2).bind fun t160 => ((weak_Naming.f x0 x2).bind fun t161 => (some (t160 == t161)))) else ((weak_Naming.f x9 x2).bind fun t162 => ((weak_Naming.f x0 x2).bind fun t163 => (if t162 = (wrap64 (t163 + 1)) then (if x10 = 0 then (some true) else ((weak_Naming.f x9 x10).bind fun t164 => ((weak_Naming.f x0 x10).bind fun t165 => (some (t164 == (wrap64 (t165 - 1))))))) else (none))))
end
def mortmainlaw09_WeakCounts.f (k : Nat) (l0 : List (S40)) (a1 : Int) (a2 : Int) (a3 : Int) : Option (Bool) := if (l0.length : Int) > 50 then (mortmainlaw09_WeakCounts.j0 k l0 a1 a2 a3 true) else (if a2 = 0 then (mortmainlaw09_WeakCounts.j0 k l0 a1 a2 a3 true) else ((mortmainlaw09_shown.f).bind fun t153 => (mortmainlaw09_WeakCounts.j0 k l0 a1 a2 a3 (!t153))))
theorem mortmainlaw09_WeakCounts.mono_l : ∀ k, (∀ y0 y1 y2 y3 y4, LeO (mortmainlaw09_WeakCounts.j0 k y0 y1 y2 y3 y4) (mortmainlaw09_WeakCounts.j0 (k + 1) y0 y1 y2 y3 y4)) ∧ (∀ y0 y1 y2 y3 y4, LeO (mortmainlaw09_WeakCounts.j1 k y0 y1 y2 y3 y4) (mortmainlaw09_WeakCounts.j1 (k + 1) y0 y1 y2 y3 y4))
  | 0 => ⟨fun _ _ _ _ _ r h => by simp [mortmainlaw09_WeakCounts.j0] at h, fun _ _ _ _ _ r h => by simp [mortmainlaw09_WeakCounts.j1] at h⟩
  | k + 1 => by
    obtain ⟨ih0, ih1⟩ := mortmainlaw09_WeakCounts.mono_l k
    refine ⟨?_, ?_⟩
    · intro y0 y1 y2 y3 y4
      unfold mortmainlaw09_WeakCounts.j0
      repeat' first
      | (with_reducible exact ih0 _ _ _ _ _)
      | (with_reducible exact ih1 _ _ _ _ _)
      | (with_reducible exact LeO.refl _)
      | (with_reducible exact LeO.none _)
      | (with_reducible refine LeO.ite ?_ ?_)
      | (with_reducible refine LeO.bind ?_ (fun _ => ?_))
      | exact ih0 _ _ _ _ _
      | exact ih1 _ _ _ _ _
      | exact LeO.none _
      | refine LeO.ite ?_ ?_
      | refine LeO.bind ?_ (fun _ => ?_)
    · intro y0 y1 y2 y3 y4
      unfold mortmainlaw09_WeakCounts.j1
      repeat' first
      | (with_reducible exact ih0 _ _ _ _ _)
      | (with_reducible exact ih1 _ _ _ _ _)
      | (with_reducible exact LeO.refl _)
      | (with_reducible exact LeO.none _)
      | (with_reducible refine LeO.ite ?_ ?_)
      | (with_reducible refine LeO.bind ?_ (fun _ => ?_))
      | exact ih0 _ _ _ _ _
      | exact ih1 _ _ _ _ _
      | exact LeO.none _
      | refine LeO.ite ?_ ?_
      | refine LeO.bind ?_ (fun _ => ?_)
theorem mortmainlaw09_WeakCounts.mono : ∀ a0 a1 a2 a3 k, LeO (mortmainlaw09_WeakCounts.f k a0 a1 a2 a3) (mortmainlaw09_WeakCounts.f (k + 1) a0 a1 a2 a3) := by
  intro a0 a1 a2 a3 k
  obtain ⟨ih0, ih1⟩ := mortmainlaw09_WeakCounts.mono_l k
  unfold mortmainlaw09_WeakCounts.f
  repeat' first
      | (with_reducible exact ih0 _ _ _ _ _)
      | (with_reducible exact ih1 _ _ _ _ _)
      | (with_reducible exact LeO.refl _)
      | (with_reducible exact LeO.none _)
      | (with_reducible refine LeO.ite ?_ ?_)
      | (with_reducible refine LeO.bind ?_ (fun _ => ?_))
      | exact ih0 _ _ _ _ _
      | exact ih1 _ _ _ _ _
      | exact LeO.none _
      | refine LeO.ite ?_ ?_
      | refine LeO.bind ?_ (fun _ => ?_)
set_option maxHeartbeats 8000000 in
set_option maxRecDepth 100000 in
theorem mortmainlaw09_WeakCounts.calls (k : Nat) (A0 : Option Addr) (c0 : Nat) (l0 : List (S40)) (a1 : Int) (a2 : Int) (a3 : Int) (r : Bool) (w : World) (hr0 : Kd.C k40 w A0 l0.length l0) (hc0 : l0.length ≤ c0) (h : mortmainlaw09_WeakCounts.f k l0 a1 a2 a3 = some r) :
    Calls Try.prog 5 #[.slice A0 l0.length c0, .int .i64 a1, .int .i64 a2, .int .i64 a3] w fun e w' => e = .returned (.bool r) ∧ Below w.heap.size w w' := by
  have HR0 := Aside0.mk hr0
  have HC0 := Aside0.mk hc0
  clear hr0 hc0
  have HB := Aside0.mk (Below.refl w.heap.size w)
  have H : (if (l0.length : Int) > 50 then (mortmainlaw09_WeakCounts.j0 k l0 a1 a2 a3 true) else (if a2 = 0 then (mortmainlaw09_WeakCounts.j0 k l0 a1 a2 a3 true) else ((mortmainlaw09_shown.f).bind fun t153 => (mortmainlaw09_WeakCounts.j0 k l0 a1 a2 a3 (!t153))))) = some r := h
  clear h
  have HC5 := Aside0.mk H
  clear H
  go_enter Try.func5, Try.ntmps5
  go_upto_region 1 with (fail)
  go_cut [22] (fun v22 wc => ∃ (kq : Nat) (x22_4 : Bool), v22 = .bool x22_4 ∧ Aside0 (mortmainlaw09_WeakCounts.j0 kq l0 a1 a2 a3 x22_4 = some r) ∧ Aside0 (kq ≤ k) ∧ Aside0 (Below w.heap.size w wc))
  case first =>
    have H := HC5.out
    clear HC5
    by_cases c6 : (l0.length : Int) > 50
    · rw [if_pos c6] at H
      have c6b0 : decide (50 < (l0.length : Int)) = true := decide_eq_true c6
      have c6b1 : decide (50 < l0.length) = true := decide_eq_true (by omega)
      clear c6
      (first | rw [c6b0] | (simp only [i64_w, i32_w]; rw [c6b0]) | skip)
      have H' := Aside0.mk H
      clear H
      go_wp2
      go_meet
      case rel => exact ⟨_, (true), (by first | rfl | (simp; done) | (simp [*]; done)), H', ⟨by first | omega | exact Nat.le_refl _⟩, ⟨by repeat (first | (with_reducible first | exact HB.out | apply below_alloc | apply pw_below_drewN | apply below_drew1) | exact HB.out)⟩⟩
    · rw [if_neg c6] at H
      have c6b0 : decide (50 < (l0.length : Int)) = false := decide_eq_false c6
      have c6b1 : decide (50 < l0.length) = false := decide_eq_false (by omega)
      clear c6
      (first | rw [c6b0] | (simp only [i64_w, i32_w]; rw [c6b0]) | skip)
      by_cases c7 : a2 = 0
      · rw [if_pos c7] at H
        have c7b0 : (a2 == 0) = true := beq_iff_eq.mpr c7
        have c7b1 : (a2 != 0) = false := bne_eq_false_iff_eq.mpr c7
        clear c7
        have H' := Aside0.mk H
        clear H
        go_wp2
        go_meet
        case rel => exact ⟨_, (true), (by first | rfl | (simp; done) | (simp [*]; done)), H', ⟨by first | omega | exact Nat.le_refl _⟩, ⟨by repeat (first | (with_reducible first | exact HB.out | apply below_alloc | apply pw_below_drewN | apply below_drew1) | exact HB.out)⟩⟩
      · rw [if_neg c7] at H
        have c7b0 : (a2 == 0) = false := beq_eq_false_iff_ne.mpr c7
        have c7b1 : (a2 != 0) = true := bne_iff_ne.mpr c7
        replace H := Option.bind_eq_some_iff.mp H
        obtain ⟨t153, A80, H⟩ := H
        replace H : (mortmainlaw09_WeakCounts.j0 k l0 a1 a2 a3 (!t153)) = some r := H
        have A8 := Aside0.mk A80
        clear A80
        have H' := Aside0.mk H
        clear H
        go_wp2_with (first | (go_at_call 6; (with_reducible refine (mortmainlaw09_shown.calls  t153 _ A8.out).mono ?_); rintro e w9 ⟨rfl, hb⟩; have n0_ := Aside0.mk (below_step (by repeat (first | (with_reducible first | exact HB.out | apply below_alloc | apply pw_below_drewN | apply below_drew1) | exact HB.out)) hb); clear HB; have HB := n0_; clear n0_; (try clear hb); (try clear hb2); (try clear hk); (try clear hi)))
        go_meet
        case rel => exact ⟨_, (!t153), (by first | rfl | (simp; done) | (simp [*]; done)), H', ⟨by first | omega | exact Nat.le_refl _⟩, ⟨by repeat (first | (with_reducible first | exact HB.out | apply below_alloc | apply pw_below_drewN | apply below_drew1) | exact HB.out)⟩⟩
  case rest =>
    clear HC5
    try clear p2
    try clear c5
    try clear c6
    try clear c6b0
    try clear c6b1
    try clear c7
    try clear c7b0
    try clear c7b1
    obtain ⟨kq, x22_4, rfl, HA, HJ4, HB⟩ := hcut
    cases kq with
    | zero => exact absurd HA.out (by simp [mortmainlaw09_WeakCounts.j0])
    | succ kj4 =>
      have H := HA.out
      clear HA
      simp only [mortmainlaw09_WeakCounts.j0] at H
      by_cases c10 : x22_4 = true
      · subst c10
        have H1 : ((mortmainlaw09_shown.f).bind fun t154 => (some t154)) = some r := by rw [if_pos rfl] at H; exact H
        clear H
        have H := H1
        clear H1
        replace H := Option.bind_eq_some_iff.mp H
        obtain ⟨t154, A110, H⟩ := H
        replace H : (some t154) = some r := H
        have A11 := Aside0.mk A110
        clear A110
        obtain rfl := Option.some.inj H
        go_wp2_with (first | ((with_reducible refine gate_callee (f := 6) rfl ?_); refine goesL_ (some 23) rfl rfl Try.func6 (by kernel_rfl) rfl #[] rfl (by (try simp only [List.map_toArray, List.map_cons, List.map_nil]); first | done | rfl | (simp only [List.length_drop, List.length_take]; rfl)) ?_; (with_reducible refine (mortmainlaw09_shown.calls  t154 _ A11.out).mono ?_); rintro e w12 ⟨rfl, hb⟩; refine ⟨_, rfl, ?_⟩; have n0_ := Aside0.mk (below_step (by repeat (first | (with_reducible first | exact HB.out | apply below_alloc | apply pw_below_drewN | apply below_drew1) | exact HB.out)) hb); clear HB; have HB := n0_; clear n0_; (try clear hb); (try clear hb2); (try clear hk); (try clear hi)))
        go_ret
        exact ⟨by first | rfl | (simp [errW_none, errW_some] <;> rfl) | (simp [*, errW_none, errW_some] <;> rfl), by repeat (first | (with_reducible first | exact HB.out | apply below_alloc | apply pw_below_drewN | apply below_drew1) | exact HB.out)⟩
      · replace c10 := Bool.eq_false_iff.mpr c10
        subst c10
        have H1 : ((weak_Set.f l0 a1 a2 a3).bind fun bt155 => (if bt155.2.2 = 0 then (mortmainlaw09_WeakCounts.j1 kj4 l0 a2 bt155.1 bt155.2.1 (bt155.2.1 == a2)) else (mortmainlaw09_WeakCounts.j1 kj4 l0 a2 bt155.1 bt155.2.1 true))) = some r := by rw [if_neg (show ¬ (false = true) by decide)] at H; exact H
        clear H
        have H := H1
        clear H1
        replace H := Option.bind_eq_some_iff.mp H
        obtain ⟨⟨t155, t158, t159⟩, A130, H⟩ := H
        replace H : (if t159 = 0 then (mortmainlaw09_WeakCounts.j1 kj4 l0 a2 t155 t158 (t158 == a2)) else (mortmainlaw09_WeakCounts.j1 kj4 l0 a2 t155 t158 true)) = some r := H
        have A13 := Aside0.mk A130
        clear A130
        have HC14 := Aside0.mk H
        clear H
        go_upto_region 4 with (first | ((with_reducible refine gate_callee (f := 11) rfl ?_); refine goesL_ (some 29) rfl rfl Try.func11 (by kernel_rfl) rfl #[.slice A0 l0.length c0, .int .i64 a1, .int .i64 a2, .int .i64 a3] rfl (by (try simp only [List.map_toArray, List.map_cons, List.map_nil]); first | done | rfl | (simp only [List.length_drop, List.length_take]; rfl)) ?_; (with_reducible refine (weak_Set.calls (fun k_ => k_ < w.heap.size) _ _ l0 a1 a2 a3 t155 t158 t159 _ ?side1 A13.out).mono ?_); (case side1 => exact Kd.V_mk HC0.out (Kd.F_below (Kd.C_F k40_heap HR0.out) (by repeat (first | (with_reducible first | exact HB.out | apply below_alloc | apply pw_below_drewN | apply below_drew1) | exact HB.out)))); rintro e w15 ⟨v156, rfl, ho0, hb⟩; refine ⟨_, rfl, ?_⟩; have n0_ := Aside0.mk (Kd.V_lower (Kd.V_mono (ok' := fun k_ => True) ho0 (fun k_ hk_ => trivial)) (below_size (by repeat (first | (with_reducible first | exact HB.out | apply below_alloc | apply pw_below_drewN | apply below_drew1) | exact HB.out)))); have n1_ := Aside0.mk (below_step (by repeat (first | (with_reducible first | exact HB.out | apply below_alloc | apply pw_below_drewN | apply below_drew1) | exact HB.out)) hb); clear HB; have HO157 := n0_; have HB := n1_; clear n0_ n1_; (try clear hb); (try clear hb2); (try clear hk); (try clear hi); (try clear ho0)))
        (try simp only [Act.put, List.setIfInBounds_toArray, List.set_cons_zero, List.set_cons_succ])
        go_cut [39] (fun v39 wc => ∃ (kq : Nat) (x39_13 : Bool), v39 = .bool x39_13 ∧ Aside0 (mortmainlaw09_WeakCounts.j1 kq l0 a2 t155 t158 x39_13 = some r) ∧ Aside0 (kq ≤ kj4) ∧ Aside0 (Kd.V k40 40 wc w.heap.size (fun _ => True) v156 t155) ∧ Aside0 (Below w.heap.size w wc))
        case first =>
          have H := HC14.out
          clear HC14
          by_cases c16 : t159 = 0
          · rw [if_pos c16] at H
            have c16b0 : (t159 == 0) = true := beq_iff_eq.mpr c16
            have c16b1 : (t159 != 0) = false := bne_eq_false_iff_eq.mpr c16
            clear c16
            (first | rw [c16b0] | (simp only [i64_w, i32_w]; rw [c16b0]) | skip)
            have H' := Aside0.mk H
            clear H
            go_wp2
            go_meet
            case rel => exact ⟨_, ((t158 == a2)), (by first | rfl | (simp; done) | (simp [*]; done)), H', ⟨by have := HJ4.out; first | omega | exact Nat.le_refl _⟩, ⟨by (with_reducible repeat (first | apply Kd.V_alloc | apply Kd.V_drewN | apply Kd.V_drew)); exact HO157.out⟩, ⟨by repeat (first | (with_reducible first | exact HB.out | apply below_alloc | apply pw_below_drewN | apply below_drew1) | exact HB.out)⟩⟩
          · rw [if_neg c16] at H
            have c16b0 : (t159 == 0) = false := beq_eq_false_iff_ne.mpr c16
            have c16b1 : (t159 != 0) = true := bne_iff_ne.mpr c16
            (first | rw [c16b0] | (simp only [i64_w, i32_w]; rw [c16b0]) | skip)
            have H' := Aside0.mk H
            clear H
            go_wp2
            go_meet
            case rel => exact ⟨_, (true), (by first | rfl | (simp; done) | (simp [*]; done)), H', ⟨by have := HJ4.out; first | omega | exact Nat.le_refl _⟩, ⟨by (with_reducible repeat (first | apply Kd.V_alloc | apply Kd.V_drewN | apply Kd.V_drew)); exact HO157.out⟩, ⟨by repeat (first | (with_reducible first | exact HB.out | apply below_alloc | apply pw_below_drewN | apply below_drew1) | exact HB.out)⟩⟩
        case rest =>
          clear HC14
          try clear c1
          try clear p2
          try clear c5
          try clear c6
          try clear c6b0
          try clear c6b1
          try clear c7
          try clear c7b0
          try clear c7b1
          try clear c10
          try clear c11
          try clear c16
          try clear c16b0
          try clear c16b1
          try clear p2
          obtain ⟨kq, x39_13, rfl, HA, HJ13, HO_9, HB⟩ := hcut
          cases kq with
          | zero => exact absurd HA.out (by simp [mortmainlaw09_WeakCounts.j1])
          | succ kj13 =>
            have H := HA.out
            clear HA
            simp only [mortmainlaw09_WeakCounts.j1] at H
            by_cases c17 : x39_13 = true
            · subst c17
              have H1 : ((weak_Naming.f t155 a2).bind fun t160 => ((weak_Naming.f l0 a2).bind fun t161 => (some (t160 == t161)))) = some r := by rw [if_pos rfl] at H; exact H
              clear H
              have H := H1
              clear H1
              replace H := Option.bind_eq_some_iff.mp H
              obtain ⟨t160, A180, H⟩ := H
              replace H : ((weak_Naming.f l0 a2).bind fun t161 => (some (t160 == t161))) = some r := H
              have A18 := Aside0.mk A180
              clear A180
              replace H := Option.bind_eq_some_iff.mp H
              obtain ⟨t161, A190, H⟩ := H
              replace H : (some (t160 == t161)) = some r := H
              have A19 := Aside0.mk A190
              clear A190
              obtain rfl := Option.some.inj H
              obtain ⟨Ao20, co20, eo20⟩ := Kd.V_slice HO_9.out
              subst eo20
              go_wp2_with (first | ((with_reducible refine gate_callee (f := 10) rfl ?_); refine goesL_ (some 42) rfl rfl Try.func10 (by kernel_rfl) rfl #[.slice Ao20 t155.length co20, .int .i64 a2] rfl (by (try simp only [List.map_toArray, List.map_cons, List.map_nil]); first | done | rfl | (simp only [List.length_drop, List.length_take]; rfl)) ?_; (with_reducible refine (weak_Naming.calls _ _ t155 a2 t160 _ ?side1 ?side2 A18.out).mono ?_); (case side1 => repeat (first | exact (Kd.V_reads' HO_9.out).2.2 | (with_reducible refine Kd.C_alloc ?_ _) | (with_reducible refine Kd.C_drewN ?_ _) | (with_reducible refine Kd.C_drew ?_))); (case side2 => exact (Kd.V_reads' HO_9.out).2.1); rintro e w21 ⟨rfl, hb⟩; refine ⟨_, rfl, ?_⟩; have n0_ := Aside0.mk (Kd.V_below (by (with_reducible repeat (first | apply Kd.V_alloc | apply Kd.V_drewN | apply Kd.V_drew)); exact HO_9.out) hb); have n1_ := Aside0.mk (below_step (by repeat (first | (with_reducible first | exact HB.out | apply below_alloc | apply pw_below_drewN | apply below_drew1) | exact HB.out)) hb); clear HO_9; clear HB; have HO_9 := n0_; have HB := n1_; clear n0_ n1_; (try clear hb); (try clear hb2); (try clear hk); (try clear hi)) | ((with_reducible refine gate_callee (f := 10) rfl ?_); refine goesL_ (some 45) rfl rfl Try.func10 (by kernel_rfl) rfl #[.slice A0 l0.length c0, .int .i64 a2] rfl (by (try simp only [List.map_toArray, List.map_cons, List.map_nil]); first | done | rfl | (simp only [List.length_drop, List.length_take]; rfl)) ?_; (with_reducible refine (weak_Naming.calls _ _ l0 a2 t161 _ ?side1 ?side2 A19.out).mono ?_); (case side1 => repeat (first | exact (Kd.C_below HR0.out HB.out) | (with_reducible refine Kd.C_alloc ?_ _) | (with_reducible refine Kd.C_drewN ?_ _) | (with_reducible refine Kd.C_drew ?_))); (case side2 => exact HC0.out); rintro e w22 ⟨rfl, hb⟩; refine ⟨_, rfl, ?_⟩; have n0_ := Aside0.mk (Kd.V_below (by (with_reducible repeat (first | apply Kd.V_alloc | apply Kd.V_drewN | apply Kd.V_drew)); exact HO_9.out) hb); have n1_ := Aside0.mk (below_step (by repeat (first | (with_reducible first | exact HB.out | apply below_alloc | apply pw_below_drewN | apply below_drew1) | exact HB.out)) hb); clear HO_9; clear HB; have HO_9 := n0_; have HB := n1_; clear n0_ n1_; (try clear hb); (try clear hb2); (try clear hk); (try clear hi)))
              go_ret
              exact ⟨by first | rfl | (simp [errW_none, errW_some] <;> rfl) | (simp [*, errW_none, errW_some] <;> rfl), by repeat (first | (with_reducible first | exact HB.out | apply below_alloc | apply pw_below_drewN | apply below_drew1) | exact HB.out)⟩
            · replace c17 := Bool.eq_false_iff.mpr c17
              subst c17
              have H1 : ((weak_Naming.f t155 a2).bind fun t162 => ((weak_Naming.f l0 a2).bind fun t163 => (if t162 = (wrap64 (t163 + 1)) then (if t158 = 0 then (some true) else ((weak_Naming.f t155 t158).bind fun t164 => ((weak_Naming.f l0 t158).bind fun t165 => (some (t164 == (wrap64 (t165 - 1))))))) else (none)))) = some r := by rw [if_neg (show ¬ (false = true) by decide)] at H; exact H
              clear H
              have H := H1
              clear H1
              replace H := Option.bind_eq_some_iff.mp H
              obtain ⟨t162, A230, H⟩ := H
              replace H : ((weak_Naming.f l0 a2).bind fun t163 => (if t162 = (wrap64 (t163 + 1)) then (if t158 = 0 then (some true) else ((weak_Naming.f t155 t158).bind fun t164 => ((weak_Naming.f l0 t158).bind fun t165 => (some (t164 == (wrap64 (t165 - 1))))))) else (none))) = some r := H
              have A23 := Aside0.mk A230
              clear A230
              replace H := Option.bind_eq_some_iff.mp H
              obtain ⟨t163, A240, H⟩ := H
              replace H : (if t162 = (wrap64 (t163 + 1)) then (if t158 = 0 then (some true) else ((weak_Naming.f t155 t158).bind fun t164 => ((weak_Naming.f l0 t158).bind fun t165 => (some (t164 == (wrap64 (t165 - 1))))))) else (none)) = some r := H
              have A24 := Aside0.mk A240
              clear A240
              by_cases c25 : t162 = (wrap64 (t163 + 1))
              · rw [if_pos c25] at H
                have c25b0 : (t162 == (wrap64 (t163 + 1))) = true := beq_iff_eq.mpr c25
                have c25b1 : (t162 != (wrap64 (t163 + 1))) = false := bne_eq_false_iff_eq.mpr c25
                clear c25
                by_cases c26 : t158 = 0
                · rw [if_pos c26] at H
                  have c26b0 : (t158 == 0) = true := beq_iff_eq.mpr c26
                  have c26b1 : (t158 != 0) = false := bne_eq_false_iff_eq.mpr c26
                  clear c26
                  obtain rfl := Option.some.inj H
                  obtain ⟨Ao27, co27, eo27⟩ := Kd.V_slice HO_9.out
                  subst eo27
                  go_wp2_with (first | ((with_reducible refine gate_callee (f := 10) rfl ?_); refine goesL_ (some 49) rfl rfl Try.func10 (by kernel_rfl) rfl #[.slice Ao27 t155.length co27, .int .i64 a2] rfl (by (try simp only [List.map_toArray, List.map_cons, List.map_nil]); first | done | rfl | (simp only [List.length_drop, List.length_take]; rfl)) ?_; (with_reducible refine (weak_Naming.calls _ _ t155 a2 t162 _ ?side1 ?side2 A23.out).mono ?_); (case side1 => repeat (first | exact (Kd.V_reads' HO_9.out).2.2 | (with_reducible refine Kd.C_alloc ?_ _) | (with_reducible refine Kd.C_drewN ?_ _) | (with_reducible refine Kd.C_drew ?_))); (case side2 => exact (Kd.V_reads' HO_9.out).2.1); rintro e w28 ⟨rfl, hb⟩; refine ⟨_, rfl, ?_⟩; have n0_ := Aside0.mk (Kd.V_below (by (with_reducible repeat (first | apply Kd.V_alloc | apply Kd.V_drewN | apply Kd.V_drew)); exact HO_9.out) hb); have n1_ := Aside0.mk (below_step (by repeat (first | (with_reducible first | exact HB.out | apply below_alloc | apply pw_below_drewN | apply below_drew1) | exact HB.out)) hb); clear HO_9; clear HB; have HO_9 := n0_; have HB := n1_; clear n0_ n1_; (try clear hb); (try clear hb2); (try clear hk); (try clear hi)) | ((with_reducible refine gate_callee (f := 10) rfl ?_); refine goesL_ (some 52) rfl rfl Try.func10 (by kernel_rfl) rfl #[.slice A0 l0.length c0, .int .i64 a2] rfl (by (try simp only [List.map_toArray, List.map_cons, List.map_nil]); first | done | rfl | (simp only [List.length_drop, List.length_take]; rfl)) ?_; (with_reducible refine (weak_Naming.calls _ _ l0 a2 t163 _ ?side1 ?side2 A24.out).mono ?_); (case side1 => repeat (first | exact (Kd.C_below HR0.out HB.out) | (with_reducible refine Kd.C_alloc ?_ _) | (with_reducible refine Kd.C_drewN ?_ _) | (with_reducible refine Kd.C_drew ?_))); (case side2 => exact HC0.out); rintro e w29 ⟨rfl, hb⟩; refine ⟨_, rfl, ?_⟩; have n0_ := Aside0.mk (Kd.V_below (by (with_reducible repeat (first | apply Kd.V_alloc | apply Kd.V_drewN | apply Kd.V_drew)); exact HO_9.out) hb); have n1_ := Aside0.mk (below_step (by repeat (first | (with_reducible first | exact HB.out | apply below_alloc | apply pw_below_drewN | apply below_drew1) | exact HB.out)) hb); clear HO_9; clear HB; have HO_9 := n0_; have HB := n1_; clear n0_ n1_; (try clear hb); (try clear hb2); (try clear hk); (try clear hi)))
                  go_ret
                  exact ⟨by first | rfl | (simp [errW_none, errW_some] <;> rfl) | (simp [*, errW_none, errW_some] <;> rfl), by repeat (first | (with_reducible first | exact HB.out | apply below_alloc | apply pw_below_drewN | apply below_drew1) | exact HB.out)⟩
                · rw [if_neg c26] at H
                  have c26b0 : (t158 == 0) = false := beq_eq_false_iff_ne.mpr c26
                  have c26b1 : (t158 != 0) = true := bne_iff_ne.mpr c26
                  replace H := Option.bind_eq_some_iff.mp H
                  obtain ⟨t164, A300, H⟩ := H
                  replace H : ((weak_Naming.f l0 t158).bind fun t165 => (some (t164 == (wrap64 (t165 - 1))))) = some r := H
                  have A30 := Aside0.mk A300
                  clear A300
                  replace H := Option.bind_eq_some_iff.mp H
                  obtain ⟨t165, A310, H⟩ := H
                  replace H : (some (t164 == (wrap64 (t165 - 1)))) = some r := H
                  have A31 := Aside0.mk A310
                  clear A310
                  obtain rfl := Option.some.inj H
                  obtain ⟨Ao32, co32, eo32⟩ := Kd.V_slice HO_9.out
                  subst eo32
                  go_wp2_with (first | ((with_reducible refine gate_callee (f := 10) rfl ?_); refine goesL_ (some 49) rfl rfl Try.func10 (by kernel_rfl) rfl #[.slice Ao32 t155.length co32, .int .i64 a2] rfl (by (try simp only [List.map_toArray, List.map_cons, List.map_nil]); first | done | rfl | (simp only [List.length_drop, List.length_take]; rfl)) ?_; (with_reducible refine (weak_Naming.calls _ _ t155 a2 t162 _ ?side1 ?side2 A23.out).mono ?_); (case side1 => repeat (first | exact (Kd.V_reads' HO_9.out).2.2 | (with_reducible refine Kd.C_alloc ?_ _) | (with_reducible refine Kd.C_drewN ?_ _) | (with_reducible refine Kd.C_drew ?_))); (case side2 => exact (Kd.V_reads' HO_9.out).2.1); rintro e w33 ⟨rfl, hb⟩; refine ⟨_, rfl, ?_⟩; have n0_ := Aside0.mk (Kd.V_below (by (with_reducible repeat (first | apply Kd.V_alloc | apply Kd.V_drewN | apply Kd.V_drew)); exact HO_9.out) hb); have n1_ := Aside0.mk (below_step (by repeat (first | (with_reducible first | exact HB.out | apply below_alloc | apply pw_below_drewN | apply below_drew1) | exact HB.out)) hb); clear HO_9; clear HB; have HO_9 := n0_; have HB := n1_; clear n0_ n1_; (try clear hb); (try clear hb2); (try clear hk); (try clear hi)) | ((with_reducible refine gate_callee (f := 10) rfl ?_); refine goesL_ (some 52) rfl rfl Try.func10 (by kernel_rfl) rfl #[.slice A0 l0.length c0, .int .i64 a2] rfl (by (try simp only [List.map_toArray, List.map_cons, List.map_nil]); first | done | rfl | (simp only [List.length_drop, List.length_take]; rfl)) ?_; (with_reducible refine (weak_Naming.calls _ _ l0 a2 t163 _ ?side1 ?side2 A24.out).mono ?_); (case side1 => repeat (first | exact (Kd.C_below HR0.out HB.out) | (with_reducible refine Kd.C_alloc ?_ _) | (with_reducible refine Kd.C_drewN ?_ _) | (with_reducible refine Kd.C_drew ?_))); (case side2 => exact HC0.out); rintro e w34 ⟨rfl, hb⟩; refine ⟨_, rfl, ?_⟩; have n0_ := Aside0.mk (Kd.V_below (by (with_reducible repeat (first | apply Kd.V_alloc | apply Kd.V_drewN | apply Kd.V_drew)); exact HO_9.out) hb); have n1_ := Aside0.mk (below_step (by repeat (first | (with_reducible first | exact HB.out | apply below_alloc | apply pw_below_drewN | apply below_drew1) | exact HB.out)) hb); clear HO_9; clear HB; have HO_9 := n0_; have HB := n1_; clear n0_ n1_; (try clear hb); (try clear hb2); (try clear hk); (try clear hi)) | (go_at_call 10; (with_reducible refine (weak_Naming.calls _ _ t155 t158 t164 _ ?side1 ?side2 A30.out).mono ?_); (case side1 => repeat (first | exact (Kd.V_reads' HO_9.out).2.2 | (with_reducible refine Kd.C_alloc ?_ _) | (with_reducible refine Kd.C_drewN ?_ _) | (with_reducible refine Kd.C_drew ?_))); (case side2 => exact (Kd.V_reads' HO_9.out).2.1); rintro e w35 ⟨rfl, hb⟩; have n0_ := Aside0.mk (Kd.V_below (by (with_reducible repeat (first | apply Kd.V_alloc | apply Kd.V_drewN | apply Kd.V_drew)); exact HO_9.out) hb); have n1_ := Aside0.mk (below_step (by repeat (first | (with_reducible first | exact HB.out | apply below_alloc | apply pw_below_drewN | apply below_drew1) | exact HB.out)) hb); clear HO_9; clear HB; have HO_9 := n0_; have HB := n1_; clear n0_ n1_; (try clear hb); (try clear hb2); (try clear hk); (try clear hi)) | (go_at_call 10; (with_reducible refine (weak_Naming.calls _ _ l0 t158 t165 _ ?side1 ?side2 A31.out).mono ?_); (case side1 => repeat (first | exact (Kd.C_below HR0.out HB.out) | (with_reducible refine Kd.C_alloc ?_ _) | (with_reducible refine Kd.C_drewN ?_ _) | (with_reducible refine Kd.C_drew ?_))); (case side2 => exact HC0.out); rintro e w36 ⟨rfl, hb⟩; have n0_ := Aside0.mk (Kd.V_below (by (with_reducible repeat (first | apply Kd.V_alloc | apply Kd.V_drewN | apply Kd.V_drew)); exact HO_9.out) hb); have n1_ := Aside0.mk (below_step (by repeat (first | (with_reducible first | exact HB.out | apply below_alloc | apply pw_below_drewN | apply below_drew1) | exact HB.out)) hb); clear HO_9; clear HB; have HO_9 := n0_; have HB := n1_; clear n0_ n1_; (try clear hb); (try clear hb2); (try clear hk); (try clear hi)))
                  go_ret
                  exact ⟨by first | rfl | (simp [errW_none, errW_some] <;> rfl) | (simp [*, errW_none, errW_some] <;> rfl), by repeat (first | (with_reducible first | exact HB.out | apply below_alloc | apply pw_below_drewN | apply below_drew1) | exact HB.out)⟩
              · rw [if_neg c25] at H
                exact absurd H (by simp)

end Go.Proofs.Ytcjapomfacohcaa.MWeakCounts
