/- The functions that the law reaches in plain Lean, and that the calls come to what these say. No condition. (By wip/myprint.py, this session's program over the kit's print.) -/
import Derived.Test.YtcjapomfacohcaaProg
import Derived.Below
import Derived.Deep.Draws
import Derived.Deep.AppendLies
import Derived.Maps.AppendAt
import Derived.OwnWalk
import Derived.Laws.BytesArg
import Derived.Laws.MakeOwn
import Derived.Laws.OwnMore
import Derived.Deep.OwnRows
import Derived.Tactics
import Derived.Lib.ConvBytes
import Derived.Laws.Slices
import Derived.WalkKit
import Derived.KernelRfl
import Derived.RowKit3
import Derived.Deep.LoopGhost
import Derived.Deep.QuietTactic
import Derived.BigQuiet
import Derived.WideLaws
import Derived.Deep.DeepCutAuto
import Derived.Deep.CutBlock
import Derived.Deep.RegionHeld3
import Derived.Laws.Rows
import Derived.Lib.AppendStr
import Derived.ArgAppend
import Derived.Laws.IdiomCopy
import Derived.OrdersHeld
import Derived.Laws.BitsLemmas
import Derived.RowKit
import Derived.OpenShut
import Derived.Test.YtcjapomfacohcaaWWords
import Derived.Test.YtcjapomfacohcaaWLast
import Derived.Test.YtcjapomfacohcaaWTab
import Derived.Test.YtcjapomfacohcaaWFour
import Derived.Test.YtcjapomfacohcaaWQPut
import Derived.Test.YtcjapomfacohcaaWApart
import Derived.Test.YtcjapomfacohcaaWArr
import Derived.Test.YtcjapomfacohcaaWZeros
import Derived.Test.YtcjapomfacohcaaWFoot
import Derived.Test.YtcjapomfacohcaaWKept
import Derived.Test.YtcjapomfacohcaaWShare
import Derived.Test.YtcjapomfacohcaaWN
import Derived.Test.YtcjapomfacohcaaWFootNe
import Derived.Test.YtcjapomfacohcaaWAt
import Derived.Test.YtcjapomfacohcaaWEqStruct
import Derived.Test.YtcjapomfacohcaaWRepsOne
import Derived.Test.YtcjapomfacohcaaWInv
import Derived.Test.YtcjapomfacohcaaWInvWords
import Derived.Test.YtcjapomfacohcaaWGuard
import Derived.Test.YtcjapomfacohcaaWNEv
import Derived.Test.YtcjapomfacohcaaWMore
import Derived.RegionTactic
import Derived.RangeFuncBox
import Derived.RangeFuncNested
import Derived.RangeFuncBound
import Derived.RangeFuncCalls
import Derived.RangeFuncLeaves
import Derived.Shelf.Abstract
import Derived.Shelf.RegionOpen
import Derived.OwnWalkIn
import Derived.TacticsInMore
import Derived.LoopNIn
import Derived.LoopIn
import Derived.Test.YtcjapomfacohcaaSteps
import Derived.Test.YtcjapomfacohcaaCopy
namespace Go.Proofs.Ytcjapomfacohcaa.MWeakClears
open Go.RowKit Go.Proofs.YtcjapomfacohcaaW.PrintWords Go.Proofs.YtcjapomfacohcaaW.PrintLast Go.Proofs.YtcjapomfacohcaaW.PrintMore
attribute [local go_sem] max2_int min2_int max_two min_two max_three min_three max_four min_four   -- for this text's walks alone
set_option linter.unusedVariables false
set_option linter.unusedSimpArgs false



def errW : Option Int → Value
  | none => .nilIface
  | some c => .iface 0 (.int .i64 c)
theorem errW_none : errW none = .nilIface := rfl
theorem errW_some (c : Int) : errW (some c) = .iface 0 (.int .i64 c) := rfl

theorem info3 : (Try.prog.info? 3).map (fun i => (i.zero, i.size, i.bytes)) = some (some (.int .i64 0), 1, 8) := by kernel_rfl
theorem info40 : (Try.prog.info? 40).map (fun i => (i.zero, i.size, i.bytes)) = some (some (.agg #[(.int .i64 0), (.bool false), (.int .i64 0)]), 3, 24) := by kernel_rfl
-- the values' own types
/-! #### struct type 40 -/
structure S40 where
  f0 : Int
  f1 : Bool
  f2 : Int
def z40 : S40 := ⟨(0 : Int), false, (0 : Int)⟩
def k40 : Kd S40 := Kd.iso (Kd.pair (Kd.int .i64) (Kd.pair Kd.bool (Kd.int .i64))) (fun x : S40 => (x.f0, x.f1, x.f2))
theorem k40_open {w : World} {x : S40} {cs : List Value} (h : k40.K w x cs) : cs = [.int .i64 x.f0, .bool x.f1, .int .i64 x.f2] := by
  obtain ⟨_, _, rfl, rfl, ⟨_, _, rfl, rfl, rfl⟩⟩ := h
  exact rfl
theorem k40_openM {w : World} {base : Nat} {ok : Nat → Prop} {x : S40} {cs : List Value} (h : k40.M w base ok x cs) : cs = [.int .i64 x.f0, .bool x.f1, .int .i64 x.f2] := by
  obtain ⟨_, _, rfl, rfl, ⟨_, _, rfl, rfl, rfl⟩⟩ := h
  exact rfl
theorem k40_mk (w : World) (x : S40)  : k40.K w x [.int .i64 x.f0, .bool x.f1, .int .i64 x.f2] := ⟨[.int .i64 x.f0], [.bool x.f1, .int .i64 x.f2], rfl, rfl, ⟨[.bool x.f1], [.int .i64 x.f2], rfl, rfl, rfl⟩⟩
theorem k40_mkM (w : World) (base : Nat) (ok : Nat → Prop) (x : S40)  : k40.M w base ok x [.int .i64 x.f0, .bool x.f1, .int .i64 x.f2] := ⟨[.int .i64 x.f0], [.bool x.f1, .int .i64 x.f2], rfl, rfl, ⟨[.bool x.f1], [.int .i64 x.f2], rfl, rfl, rfl⟩⟩
theorem k40_mkF (W : World) (ok : Nat → Prop) (x : S40) : Kd.FK k40 W ok x [.int .i64 x.f0, .bool x.f1, .int .i64 x.f2] := fun W2 _ => k40_mk W2 x
def rd_T40 (xs : List S40) (i : Int) : S40 := xs.getD i.toNat z40
theorem at_T40 {w : World} {A : Option Addr} {n : Nat} {xs : List S40} (h : Kd.C k40 w A n xs) (i : Int) (h0 : 0 ≤ i) (h1 : i < n) : ∃ ad , A = some ad ∧ w.cell? (ad.add (i.toNat * 3)) = some (.int .i64 (rd_T40 xs i).f0) ∧ w.cell? ⟨(ad.add (i.toNat * 3)).block, (ad.add (i.toNat * 3)).off + 1, none⟩ = some (.bool (rd_T40 xs i).f1) ∧ w.cell? ⟨(ad.add (i.toNat * 3)).block, (ad.add (i.toNat * 3)).off + 2, none⟩ = some (.int .i64 (rd_T40 xs i).f2) := by
  obtain ⟨ad, c, e, _, hK, hc0⟩ := Kd.C_get h z40 i h0 h1
  have hc : ∀ j u, c[j]? = some u → w.cell? (ad.add (i.toNat * 3 + j)) = some u := hc0
  obtain rfl := k40_open hK
  exact ⟨ad, e, hc 0 _ rfl, by rw [← add_field _ _ 1 (by omega)]; exact hc 1 _ rfl, by rw [← add_field _ _ 2 (by omega)]; exact hc 2 _ rfl⟩

def rd_L3 (xs : List (List S40)) (i : Int) : (List S40) := xs.getD i.toNat ([] : List S40)
theorem at_L3 {w : World} {A : Option Addr} {n : Nat} {xs : List (List S40)} (h : Kd.C (Kd.slice 40 k40) w A n xs) (i : Int) (h0 : 0 ≤ i) (h1 : i < n) : ∃ ad A0 c0, A = some ad ∧ w.cell? (ad.add i.toNat) = some (.slice A0 (rd_L3 xs i).length c0) ∧ (rd_L3 xs i).length ≤ c0 ∧ k40.C w A0 (rd_L3 xs i).length (rd_L3 xs i) := by
  obtain ⟨ad, c, e, _, hK, hc0⟩ := Kd.C_get h ([] : List S40) i h0 h1
  have hc : ∀ j u, c[j]? = some u → w.cell? (ad.add (i.toNat * 1 + j)) = some u := hc0
  obtain ⟨A0, c0, rfl, l0, g0⟩ := hK
  exact ⟨ad, A0, c0, e, by have hq := hc 0 _ rfl; rwa [Nat.mul_one, Nat.add_zero] at hq, l0, g0⟩

def rd_L4 (xs : List (List Int)) (i : Int) : (List Int) := xs.getD i.toNat ([] : List Int)
theorem at_L4 {w : World} {A : Option Addr} {n : Nat} {xs : List (List Int)} (h : Kd.C (Kd.slice 3 (Kd.int .i64)) w A n xs) (i : Int) (h0 : 0 ≤ i) (h1 : i < n) : ∃ ad A0 c0, A = some ad ∧ w.cell? (ad.add i.toNat) = some (.slice A0 (rd_L4 xs i).length c0) ∧ (rd_L4 xs i).length ≤ c0 ∧ (Kd.int .i64).C w A0 (rd_L4 xs i).length (rd_L4 xs i) := by
  obtain ⟨ad, c, e, _, hK, hc0⟩ := Kd.C_get h ([] : List Int) i h0 h1
  have hc : ∀ j u, c[j]? = some u → w.cell? (ad.add (i.toNat * 1 + j)) = some u := hc0
  obtain ⟨A0, c0, rfl, l0, g0⟩ := hK
  exact ⟨ad, A0, c0, e, by have hq := hc 0 _ rfl; rwa [Nat.mul_one, Nat.add_zero] at hq, l0, g0⟩

attribute [local go_sem] Oper.semAt_some
open Go.Shelf
/-- How many cells name h, of those of which p holds. -/
def cnp (p : S40 → Bool) (l : List S40) (h : Int) : Int := if h = 0 then 0 else ((l.filter fun x => x.f0 == h && p x).length : Int)
theorem cnp_zero (p : S40 → Bool) (l : List S40) : cnp p l 0 = 0 := if_pos rfl
theorem cnp_range (p : S40 → Bool) (l : List S40) (h : Int) : 0 ≤ cnp p l h ∧ cnp p l h ≤ (l.length : Int) := by
  unfold cnp
  have := List.length_filter_le (fun x => x.f0 == h && p x) l
  split <;> omega
theorem cnp_step (p : S40 → Bool) (l : List S40) (h : Int) (k : Nat) (hk : k < l.length) (hh : h ≠ 0) : cnp p (l.take (k + 1)) h = if ((rd_T40 l (k : Int)).f0 == h && p (rd_T40 l (k : Int))) = true then cnp p (l.take k) h + 1 else cnp p (l.take k) h := by
  have e : rd_T40 l (k : Int) = l[k] := by unfold rd_T40; rw [Int.toNat_natCast, List.getD_eq_getElem?_getD, List.getElem?_eq_getElem hk]; rfl
  rw [e]
  unfold cnp
  rw [if_neg hh, if_neg hh, List.take_succ_eq_append_getElem hk, List.filter_append]
  by_cases c : (l[k].f0 == h && p l[k]) = true
  · rw [if_pos c, List.filter_cons, if_pos c]; simp
  · rw [if_neg c, List.filter_cons, if_neg c]; simp
set_option maxHeartbeats 1000000 in
theorem is18_in (F : Fence) (n : Nat) (h18 : F.fn 18) (hro : F.round = none) (a c : Int) (b : Bool) (w : World) :
    CallsIn F n Try.prog 18 #[.agg #[.int .i64 a, .bool b, .int .i64 c]] w fun e w' => e = .returned (.bool b) ∧ w' = w.alloc (.cells #[.int .i64 a, .bool b, .int .i64 c] 40) := by
  refine callsIn_of_wp Try.func18 rfl h18 ?_ hro
  simp only [Try.ntmps18, List.size_toArray, List.length_cons, List.length_nil, Nat.reduceAdd, Nat.reduceSub, Array.replicate_succ, Array.replicate_zero, List.push_toArray, List.append_toArray, List.nil_append, List.cons_append]
  gi_wp2
  go_ret
  exact ⟨rfl, rfl⟩
set_option maxHeartbeats 1000000 in
theorem is19_in (F : Fence) (n : Nat) (h19 : F.fn 19) (hro : F.round = none) (a c : Int) (b : Bool) (w : World) :
    CallsIn F n Try.prog 19 #[.agg #[.int .i64 a, .bool b, .int .i64 c]] w fun e w' => e = .returned (.bool true) ∧ w' = w.alloc (.cells #[.int .i64 a, .bool b, .int .i64 c] 40) := by
  refine callsIn_of_wp Try.func19 rfl h19 ?_ hro
  simp only [Try.ntmps19, List.size_toArray, List.length_cons, List.length_nil, Nat.reduceAdd, Nat.reduceSub, Array.replicate_succ, Array.replicate_zero, List.push_toArray, List.append_toArray, List.nil_append, List.cons_append]
  gi_wp2
  go_ret
  exact ⟨rfl, rfl⟩
set_option maxRecDepth 100000 in
set_option maxHeartbeats 4000000 in
theorem count18_in (F : Fence) (n : Nat) (h17 : F.fn 17) (h18 : F.fn 18) (hro : F.round = none) (hn : 2 ≤ n) (A : Option Addr) (c : Nat) (xs : List S40) (h : Int) (hbig : xs.length ≤ 1000000) (w : World) (hC : Kd.C k40 w A xs.length xs) :
    CallsIn F n Try.prog 17 #[.slice A xs.length c, .int .i64 h, .func (.func 18) #[] #[]] w fun e w' => e = .returned (.int .i64 (cnp (fun x => x.f1) xs h)) ∧ Below w.heap.size w w' := by
  have h1 : 1 ≤ n := by omega
  have HC := Aside0.mk hC
  clear hC
  refine callsIn_of_wp Try.func17 rfl h17 ?_ hro
  simp only [Try.ntmps17, List.size_toArray, List.length_cons, List.length_nil, Nat.reduceAdd, Nat.reduceSub, Array.replicate_succ, Array.replicate_zero, List.push_toArray, List.append_toArray, List.nil_append, List.cons_append]
  gi_wp2
  gi_loopw [6, 11] (fun i6 i wr => ∃ k : Nat, k ≤ xs.length ∧ i = .int .i64 k ∧ i6 = .int .i64 (cnp (fun x => x.f1) (xs.take k) h) ∧ Below w.heap.size w wr)
    (fun _ i _ => xs.length - (intOf i).toNat)
  case atStart => exact ⟨0, Nat.zero_le _, rfl, by simp [cnp], Below.refl _ _⟩
  case round =>
    obtain ⟨k, hk, rfl, rfl, hnx⟩ := hrel
    by_cases hlt : k < xs.length
    · obtain ⟨ad, e, hcx, hcy, hcz⟩ := at_T40 (Kd.C_below HC.out hnx) (k : Int) (by omega) (by omega)
      cases e
      rw [Int.toNat_natCast] at hcx hcy hcz
      have hbA : Below w.heap.size wr (wr.alloc (.cells #[.int .i64 (rd_T40 xs (k : Int)).f0, .bool (rd_T40 xs (k : Int)).f1, .int .i64 (rd_T40 xs (k : Int)).f2] 40)) := (Below.refl _ _).alloc hnx.size _
      have hbB : Below w.heap.size wr ((wr.alloc (.cells #[.int .i64 (rd_T40 xs (k : Int)).f0, .bool (rd_T40 xs (k : Int)).f1, .int .i64 (rd_T40 xs (k : Int)).f2] 40)).alloc (.cells #[.int .i64 (rd_T40 xs (k : Int)).f0, .bool (rd_T40 xs (k : Int)).f1, .int .i64 (rd_T40 xs (k : Int)).f2] 40)) := hbA.alloc (Nat.le_trans hnx.size (by simp)) _
      have HR := Aside0.mk (cnp_range (fun x => x.f1) (xs.take k) h)
      have HL := Aside0.mk (show (xs.take k).length ≤ 1000000 by rw [List.length_take]; omega)
      have HBA := Aside0.mk hbA
      have HBB := Aside0.mk hbB
      have HNX := Aside0.mk hnx
      clear hbA hbB hnx
      cases hh : (h != 0) with
      | false =>
        have h0 : h = 0 := by simpa using hh
        have HQ := Aside0.mk (show cnp (fun x => x.f1) (xs.take (k + 1)) h = cnp (fun x => x.f1) (xs.take k) h by rw [h0, cnp_zero, cnp_zero])
        clear h0
        gi_wp2
        refine ⟨fun _ h => (by cases h), ?_⟩
        gi_wp2
        go_roundw
        case rel => exact ⟨k + 1, by omega, by simp, by rw [HQ.out], HNX.out.trans HBA.out⟩
        case measure => simp [intOf]; omega
      | true =>
        have h0 : h ≠ 0 := by simpa using hh
        have hst := cnp_step (fun x => x.f1) xs h k hlt h0
        clear h0
        cases hx : ((rd_T40 xs (k : Int)).f0 == h) with
        | false =>
          have HQ := Aside0.mk (show cnp (fun x => x.f1) (xs.take (k + 1)) h = cnp (fun x => x.f1) (xs.take k) h by rw [hst, hx]; simp)
          clear hst
          gi_wp2
          refine ⟨fun _ h => (by cases h), ?_⟩
          gi_wp2
          go_roundw
          case rel => exact ⟨k + 1, by omega, by simp, by rw [HQ.out], HNX.out.trans HBA.out⟩
          case measure => simp [intOf]; omega
        | true =>
          cases hp : (rd_T40 xs (k : Int)).f1 with
          | false =>
            have HQ := Aside0.mk (show cnp (fun x => x.f1) (xs.take (k + 1)) h = cnp (fun x => x.f1) (xs.take k) h by rw [hst, hx, hp]; simp)
            clear hst
            rw [hp] at hcy HBA HBB
            gi_wp2_with (gi_at_call 18; refine (is18_in F (n - 1) h18 hro _ _ _ _).mono ?_; rintro e w' ⟨rfl, rfl⟩)
            go_roundw
            case rel => exact ⟨k + 1, by omega, by simp, by rw [HQ.out], HNX.out.trans HBB.out⟩
            case measure => simp [intOf]; omega
          | true =>
            have HQ := Aside0.mk (show cnp (fun x => x.f1) (xs.take (k + 1)) h = cnp (fun x => x.f1) (xs.take k) h + 1 by rw [hst, hx, hp]; simp)
            clear hst
            rw [hp] at hcy HBA HBB
            have hr0 := HR.out
            have hl0 := HL.out
            gi_wp2_with (gi_at_call 18; refine (is18_in F (n - 1) h18 hro _ _ _ _).mono ?_; rintro e w' ⟨rfl, rfl⟩)
            go_roundw
            case rel => exact ⟨k + 1, by omega, by simp, by rw [HQ.out], HNX.out.trans HBB.out⟩
            case measure => simp [intOf]; omega
    · obtain rfl : k = xs.length := by omega
      gi_wp2
      go_ret
      exact ⟨by simp, hnx⟩
set_option maxRecDepth 100000 in
set_option maxHeartbeats 4000000 in
theorem count19_in (F : Fence) (n : Nat) (h17 : F.fn 17) (h19 : F.fn 19) (hro : F.round = none) (hn : 2 ≤ n) (A : Option Addr) (c : Nat) (xs : List S40) (h : Int) (hbig : xs.length ≤ 1000000) (w : World) (hC : Kd.C k40 w A xs.length xs) :
    CallsIn F n Try.prog 17 #[.slice A xs.length c, .int .i64 h, .func (.func 19) #[] #[]] w fun e w' => e = .returned (.int .i64 (cnp (fun _ => true) xs h)) ∧ Below w.heap.size w w' := by
  have h1 : 1 ≤ n := by omega
  have HC := Aside0.mk hC
  clear hC
  refine callsIn_of_wp Try.func17 rfl h17 ?_ hro
  simp only [Try.ntmps17, List.size_toArray, List.length_cons, List.length_nil, Nat.reduceAdd, Nat.reduceSub, Array.replicate_succ, Array.replicate_zero, List.push_toArray, List.append_toArray, List.nil_append, List.cons_append]
  gi_wp2
  gi_loopw [6, 11] (fun i6 i wr => ∃ k : Nat, k ≤ xs.length ∧ i = .int .i64 k ∧ i6 = .int .i64 (cnp (fun _ => true) (xs.take k) h) ∧ Below w.heap.size w wr)
    (fun _ i _ => xs.length - (intOf i).toNat)
  case atStart => exact ⟨0, Nat.zero_le _, rfl, by simp [cnp], Below.refl _ _⟩
  case round =>
    obtain ⟨k, hk, rfl, rfl, hnx⟩ := hrel
    by_cases hlt : k < xs.length
    · obtain ⟨ad, e, hcx, hcy, hcz⟩ := at_T40 (Kd.C_below HC.out hnx) (k : Int) (by omega) (by omega)
      cases e
      rw [Int.toNat_natCast] at hcx hcy hcz
      have hbA : Below w.heap.size wr (wr.alloc (.cells #[.int .i64 (rd_T40 xs (k : Int)).f0, .bool (rd_T40 xs (k : Int)).f1, .int .i64 (rd_T40 xs (k : Int)).f2] 40)) := (Below.refl _ _).alloc hnx.size _
      have hbB : Below w.heap.size wr ((wr.alloc (.cells #[.int .i64 (rd_T40 xs (k : Int)).f0, .bool (rd_T40 xs (k : Int)).f1, .int .i64 (rd_T40 xs (k : Int)).f2] 40)).alloc (.cells #[.int .i64 (rd_T40 xs (k : Int)).f0, .bool (rd_T40 xs (k : Int)).f1, .int .i64 (rd_T40 xs (k : Int)).f2] 40)) := hbA.alloc (Nat.le_trans hnx.size (by simp)) _
      have HR := Aside0.mk (cnp_range (fun _ => true) (xs.take k) h)
      have HL := Aside0.mk (show (xs.take k).length ≤ 1000000 by rw [List.length_take]; omega)
      have HBA := Aside0.mk hbA
      have HBB := Aside0.mk hbB
      have HNX := Aside0.mk hnx
      clear hbA hbB hnx
      cases hh : (h != 0) with
      | false =>
        have h0 : h = 0 := by simpa using hh
        have HQ := Aside0.mk (show cnp (fun _ => true) (xs.take (k + 1)) h = cnp (fun _ => true) (xs.take k) h by rw [h0, cnp_zero, cnp_zero])
        clear h0
        gi_wp2
        refine ⟨fun _ h => (by cases h), ?_⟩
        gi_wp2
        go_roundw
        case rel => exact ⟨k + 1, by omega, by simp, by rw [HQ.out], HNX.out.trans HBA.out⟩
        case measure => simp [intOf]; omega
      | true =>
        have h0 : h ≠ 0 := by simpa using hh
        have hst := cnp_step (fun _ => true) xs h k hlt h0
        clear h0
        cases hx : ((rd_T40 xs (k : Int)).f0 == h) with
        | false =>
          have HQ := Aside0.mk (show cnp (fun _ => true) (xs.take (k + 1)) h = cnp (fun _ => true) (xs.take k) h by rw [hst, hx]; simp)
          clear hst
          gi_wp2
          refine ⟨fun _ h => (by cases h), ?_⟩
          gi_wp2
          go_roundw
          case rel => exact ⟨k + 1, by omega, by simp, by rw [HQ.out], HNX.out.trans HBA.out⟩
          case measure => simp [intOf]; omega
        | true =>
          have HQ := Aside0.mk (show cnp (fun _ => true) (xs.take (k + 1)) h = cnp (fun _ => true) (xs.take k) h + 1 by rw [hst, hx]; simp)
          clear hst
          have hr0 := HR.out
          have hl0 := HL.out
          gi_wp2_with (gi_at_call 19; refine (is19_in F (n - 1) h19 hro _ _ _ _).mono ?_; rintro e w' ⟨rfl, rfl⟩)
          go_roundw
          case rel => exact ⟨k + 1, by omega, by simp, by rw [HQ.out], HNX.out.trans HBB.out⟩
          case measure => simp [intOf]; omega
    · obtain rfl : k = xs.length := by omega
      gi_wp2
      go_ret
      exact ⟨by simp, hnx⟩
theorem rd_get (l : List Int) (k : Nat) (h : k < l.length) : rd l (k : Int) = l[k] := by
  unfold rd; rw [Int.toNat_natCast, List.getD_eq_getElem?_getD, List.getElem?_eq_getElem h]; rfl
set_option maxRecDepth 100000 in
set_option maxHeartbeats 2000000 in
theorem index_in (F : Fence) (n : Nat) (h22 : F.fn 22) (hro : F.round = none) (A : Option Addr) (c : Nat) (xs : List Int) (x : Int) (hbig : xs.length ≤ 1000000) (w : World) (hC : Kd.C (Kd.int .i64) w A xs.length xs) :
    CallsIn F n Try.prog 22 #[.slice A xs.length c, .int .i64 x] w fun e w' => (∃ r : Int, e = .returned (.int .i64 r) ∧ (0 ≤ r ↔ x ∈ xs)) ∧ w' = w := by
  have HC := Aside0.mk hC
  clear hC
  refine callsIn_of_wp Try.func22 rfl h22 ?_ hro
  simp only [Try.ntmps22, List.size_toArray, List.length_cons, List.length_nil, Nat.reduceAdd, Nat.reduceSub, Array.replicate_succ, Array.replicate_zero, List.push_toArray, List.append_toArray, List.nil_append, List.cons_append]
  gi_wp2
  gi_loopw [8] (fun i wr => ∃ k : Nat, k ≤ xs.length ∧ i = .int .i64 k ∧ (x ∉ xs.take k) ∧ wr = w)
    (fun i _ => xs.length - (intOf i).toNat)
  case atStart => exact ⟨0, Nat.zero_le _, rfl, by simp, rfl⟩
  case round =>
    obtain ⟨k, hk, rfl, hno, rfl⟩ := hrel
    by_cases hlt : k < xs.length
    · obtain ⟨ad, e, hcx⟩ := Kd.at_int HC.out (k : Int) (by omega) (by omega)
      cases e
      rw [Int.toNat_natCast] at hcx
      cases hx : (x == rd xs (k : Int)) with
      | true =>
        have HX := Aside0.mk (show x ∈ xs by have e : x = rd xs (k : Int) := by simpa using hx
                                             rw [e, rd_get xs k hlt]; exact List.getElem_mem _)
        have HN := Aside0.mk hno
        clear hno
        gi_wp2
        go_ret
        exact ⟨⟨_, rfl, ⟨fun _ => HX.out, fun _ => by omega⟩⟩, rfl⟩
      | false =>
        have HX := Aside0.mk (show x ∉ xs.take (k + 1) by
          rw [List.take_succ_eq_append_getElem hlt, List.mem_append, not_or]
          refine ⟨hno, fun h => ?_⟩
          rw [List.mem_singleton] at h
          rw [rd_get xs k hlt] at hx
          rw [h] at hx
          simp at hx)
        clear hno
        gi_wp2
        go_roundw
        case rel => exact ⟨k + 1, by omega, by simp, HX.out, trivial⟩
        case measure => simp [intOf]; omega
    · obtain rfl : k = xs.length := by omega
      have HN := Aside0.mk (show x ∉ xs by rw [List.take_length] at hno; exact hno)
      clear hno
      gi_wp2
      go_ret
      exact ⟨⟨_, rfl, ⟨fun h => by omega, fun h => absurd h HN.out⟩⟩, rfl⟩
set_option maxHeartbeats 1000000 in
theorem contains_in (F : Fence) (n : Nat) (h16 : F.fn 16) (h22 : F.fn 22) (hro : F.round = none) (hn : 1 ≤ n) (A : Option Addr) (c : Nat) (xs : List Int) (x : Int) (hbig : xs.length ≤ 1000000) (w : World) (hC : Kd.C (Kd.int .i64) w A xs.length xs) :
    CallsIn F n Try.prog 16 #[.slice A xs.length c, .int .i64 x] w fun e w' => e = .returned (.bool (decide (x ∈ xs))) ∧ w' = w := by
  have HC := Aside0.mk hC
  clear hC
  refine callsIn_of_wp Try.func16 rfl h16 ?_ hro
  simp only [Try.ntmps16, List.size_toArray, List.length_cons, List.length_nil, Nat.reduceAdd, Nat.reduceSub, Array.replicate_succ, Array.replicate_zero, List.push_toArray, List.append_toArray, List.nil_append, List.cons_append]
  gi_wp2_with (gi_at_call 22; refine (index_in F (n - 1) h22 hro A c xs x hbig _ HC.out).mono ?_; rintro e w' ⟨⟨r, rfl, hr⟩, rfl⟩; have HR := Aside0.mk hr; clear hr)
  go_ret
  refine ⟨?_, rfl⟩
  show Ending.returned (Value.bool (decide (0 ≤ r))) = _
  rw [decide_eq_decide.2 HR.out]
set_option maxRecDepth 100000 in
set_option maxHeartbeats 2000000 in
/-- weak.Clear's closure. -/
theorem goes_in (F : Fence) (n : Nat) (h15 : F.fn 15) (h16 : F.fn 16) (h22 : F.fn 22) (hro : F.round = none) (hn : 2 ≤ n) (B : Nat) (A : Option Addr) (c : Nat) (xs : List Int) (a q : Int) (b : Bool) (hbig : xs.length ≤ 1000000) (w : World) (hB : B < w.heap.size)
    (hc : w.cell? ⟨B, 0, none⟩ = some (.slice A xs.length c)) (hC : Kd.C (Kd.int .i64) w A xs.length xs) :
    CallsIn F n Try.prog 15 #[.agg #[.int .i64 a, .bool b, .int .i64 q], .pointer (some ⟨B, 0, none⟩)] w fun e w' => e = .returned (.bool (b && (a != 0) && decide (a ∈ xs))) ∧ w' = w.alloc (.cells #[.int .i64 a, .bool b, .int .i64 q] 40) := by
  have h1 : 1 ≤ n := by omega
  have HC := Aside0.mk (Kd.C_below hC ((Below.refl _ w).alloc (Nat.le_refl _) (.cells #[.int .i64 a, .bool b, .int .i64 q] 40)))
  have hcA : (w.alloc (.cells #[.int .i64 a, .bool b, .int .i64 q] 40)).cell? ⟨B, 0, none⟩ = some (.slice A xs.length c) := (((Below.refl _ w).alloc (Nat.le_refl _) (.cells #[.int .i64 a, .bool b, .int .i64 q] 40)).cell (p := ⟨B, 0, none⟩) hB).trans hc
  clear hC
  refine callsIn_of_wp Try.func15 rfl h15 ?_ hro
  simp only [Try.ntmps15, List.size_toArray, List.length_cons, List.length_nil, Nat.reduceAdd, Nat.reduceSub, Array.replicate_succ, Array.replicate_zero, List.push_toArray, List.append_toArray, List.nil_append, List.cons_append]
  cases b with
  | false =>
    gi_wp2
    go_ret
    exact ⟨rfl, rfl⟩
  | true =>
    cases ha : (a != 0) with
    | false =>
      gi_wp2
      go_ret
      exact ⟨rfl, rfl⟩
    | true =>
      gi_wp2_with (gi_at_call 16; refine (contains_in F (n - 1) h16 h22 hro (by omega) A c xs a hbig _ HC.out).mono ?_; rintro e w' ⟨rfl, rfl⟩)
      go_ret
      exact ⟨by simp, rfl⟩
open Go.Proofs.Ytcjapomfacohcaa
theorem flat40 : Steps.Flat k40 := Steps.flat_iso _ (Steps.flat_pair (Steps.flat_int _) (Steps.flat_pair Steps.flat_bool (Steps.flat_int _)))
theorem mul13 (w : World) : Calls Try.prog 23 #[.int .u64 1, .int .u64 3] w fun e w' => e = .returned (.tuple #[.int .u64 0, .int .u64 3]) ∧ w = w' := by
  go_enter Try.func23, Try.ntmps23
  go_wp2_with go_in
  go_ret2
  exact ⟨rfl, rfl⟩
theorem mul10 (w : World) : Calls Try.prog 23 #[.int .u64 1, .int .u64 0] w fun e w' => e = .returned (.tuple #[.int .u64 0, .int .u64 0]) ∧ w = w' := by
  go_enter Try.func23, Try.ntmps23
  go_wp2_with go_in
  go_ret2
  exact ⟨rfl, rfl⟩
/-- Three cells, of which k are filled. -/
def c9 (k : Nat) : Array Value := (List.replicate k [Value.int .i64 0, .bool false, .int .i64 (-1)] ++ List.replicate (3 - k) [Value.int .i64 0, .bool false, .int .i64 0]).flatten.toArray
theorem make9 (w : World) : (Instr.makeSlice 22 (.int .i64 3) (.int .i64 3)).run Try.prog w = .ok (.slice (some ⟨w.heap.size, 0, none⟩) 3 3) (w.alloc (.cells (c9 0) 40)) := by kernel_rfl
theorem make0 (w : World) : (Instr.makeSlice 22 (.int .i64 0) (.int .i64 0)).run Try.prog w = .ok (.slice (some ⟨w.heap.size, 0, none⟩) 0 0) (w.alloc (.cells #[] 40)) := by kernel_rfl
theorem fit9 (k : Nat) (hk : k < 3) : k * 3 + [Value.int .i64 0, .bool false, .int .i64 (-1)].length ≤ (c9 k).size := by
  obtain rfl | rfl | rfl : k = 0 ∨ k = 1 ∨ k = 2 := by omega
  all_goals exact of_decide_eq_true rfl
/-- One element is copied. -/
theorem copy9 (w : World) (ty g b off c d n len : Nat) (k : Nat) (hg : w.heap[g]? = some (.cells (c9 k) 40 (0, 0))) (hk : k < 3) (h1 : Nat.min len n = 1)
    (hs : ∀ j v, [Value.int .i64 0, .bool false, .int .i64 (-1)][j]? = some v → w.cell? ((⟨b, off, none⟩ : Addr).add j) = some v) :
    (Builtin.copy_ #[22, 22] ty #[.slice (some ⟨g, k * 3, none⟩) n c, .slice (some ⟨b, off, none⟩) len d]).run Try.prog w = .ok (.int .i64 1) (w.setRow g (c9 (k + 1))) := by
  have h := Steps.run_copy_rowN (P := Try.prog) w 22 22 ty 40 g (k * 3) n c 3 ⟨b, off, none⟩ len d (c9 k) 40 [Value.int .i64 0, .bool false, .int .i64 (-1)] Try.underlying22 (by kernel_rfl) hg (by rw [h1]; rfl) hs (fit9 k hk) (by simp [Value.oneCell'])
  rw [h, h1]
  obtain rfl | rfl | rfl : k = 0 ∨ k = 1 ∨ k = 2 := by omega
  all_goals rfl
theorem slice9a (k : Nat) (g : Nat) (W : World) (hk : k = 1 ∨ k = 2) : (Instr.slice 22 (.slice (some ⟨g, 0, none⟩) 3 3) (some (.int .i64 (k : Int))) none none).run Try.prog W = .ok (.slice (some ⟨g, k * 3, none⟩) (3 - k) (3 - k)) W := by
  rcases hk with rfl | rfl <;> kernel_rfl
theorem slice9b (k : Nat) (g : Nat) (W : World) (hk : k = 1 ∨ k = 2) : (Instr.slice 22 (.slice (some ⟨g, 0, none⟩) 3 3) none (some (.int .i64 (k : Int))) none).run Try.prog W = .ok (.slice (some ⟨g, 0, none⟩) k 3) W := by
  rcases hk with rfl | rfl <;> kernel_rfl
theorem R9 {w w' : World} {g : Nat} (h : w'.heap[g]? = some (.cells (c9 3) 40 (0, 0))) (hg : w.heap.size ≤ g) : Kd.R k40 40 w' w.heap.size (fun _ => True) (.slice (some ⟨g, 0, none⟩) 3 3) [⟨0, false, -1⟩, ⟨0, false, -1⟩, ⟨0, false, -1⟩] := by
  refine ⟨fun _ _ => trivial, (c9 3).toList, ⟨rfl, .inr ⟨g, 3, c9 3, rfl, hg, h, Nat.le_refl _, by decide, rfl, rfl⟩⟩, rfl, fun j p hj => ?_⟩
  have hl : j < 3 := (List.getElem?_eq_some_iff.1 hj).1
  obtain rfl | rfl | rfl : j = 0 ∨ j = 1 ∨ j = 2 := by omega
  all_goals (injection hj with hj; subst hj; exact k40_mkM _ _ _ ⟨0, false, -1⟩)
set_option maxRecDepth 100000 in
set_option maxHeartbeats 8000000 in
theorem rep3 (b : Nat) (w : World) (hx : w.heap[b]? = some (.cells #[.int .i64 0, .bool false, .int .i64 (-1)] 40 (0, 0))) : Calls Try.prog 21 #[.slice (some ⟨b, 0, none⟩) 1 1, .int .i64 3] w fun e w' => ∃ v0_ : Value, e = .returned v0_ ∧ Kd.R k40 40 w' w.heap.size (fun _ => True) v0_ [⟨0, false, -1⟩, ⟨0, false, -1⟩, ⟨0, false, -1⟩] ∧ Below w.heap.size w w' := by
  have HX := Aside0.mk hx
  have hlt := blk_lt hx
  obtain ⟨w2, hw2⟩ : ∃ w2, (w.alloc (.cells (c9 0) 40)).setRow w.heap.size (c9 1) = w2 := ⟨_, rfl⟩
  have HC := copy9 (w.alloc (.cells (c9 0) 40)) 3 w.heap.size b 0 3 1 3 1 0 (blk_new w _) (by decide) rfl (fun j v hj => by
    have hc := blk_alloc hx (.cells (c9 0) 40)
    have hj3 : j < 3 := (List.getElem?_eq_some_iff.1 hj).1
    obtain rfl | rfl | rfl : j = 0 ∨ j = 1 ∨ j = 2 := by omega
    all_goals (refine (blk_cell hc _).trans ?_; exact hj))
  rw [hw2] at HC
  have HG := Aside0.mk (show w2.heap[w.heap.size]? = some (.cells (c9 1) 40 (0, 0)) by rw [← hw2]; exact setRow_heap _ _ _ _ _ _ (blk_new w _))
  have HB := Aside0.mk (show Below w.heap.size w w2 by rw [← hw2]; exact below_setRow ((Below.refl _ _).alloc (Nat.le_refl _) _) (Nat.le_refl _) _)
  have HM := make9
  clear hx hw2
  simp only [Nat.zero_mul] at HC
  go_enter Try.func21, Try.ntmps21
  go_wp2_with (first | (go_at_call 23; refine (mul13 _).mono ?_; rintro e w' ⟨rfl, rfl⟩))
  clear HC HM
  go_loopw [8] (fun i wr => ∃ k : Nat, 1 ≤ k ∧ k ≤ 3 ∧ i = .int .i64 k ∧ wr.heap[w.heap.size]? = some (.cells (c9 k) 40 (0, 0)) ∧ Below w.heap.size w wr) (fun i _ => 3 - (intOf i).toNat)
  case atStart => exact ⟨1, by decide, by decide, rfl, HG.out, HB.out⟩
  case round =>
    clear HG HB HX
    obtain ⟨k, hk1, hk, rfl, hg, hb⟩ := hrel
    have HG := Aside0.mk hg
    have HB := Aside0.mk hb
    clear hg hb
    by_cases hlt : k < 3
    · have hor : k = 1 ∨ k = 2 := by omega
      have HS : ∀ W : World, _ := fun W => slice9a k w.heap.size W hor
      have HT : ∀ W : World, _ := fun W => slice9b k w.heap.size W hor
      obtain ⟨w3, hw3⟩ : ∃ w3, wr.drew.setRow w.heap.size (c9 (k + 1)) = w3 := ⟨_, rfl⟩
      have HC := copy9 wr.drew 3 w.heap.size w.heap.size 0 (3 - k) 3 (3 - k) k k (blk_drew HG.out) hlt (by rcases hor with rfl | rfl <;> rfl) (fun j v hj => by
        have hc := blk_drew HG.out
        have hj3 : j < 3 := (List.getElem?_eq_some_iff.1 hj).1
        obtain rfl | rfl | rfl : j = 0 ∨ j = 1 ∨ j = 2 := by omega
        all_goals
          refine (blk_cell hc _).trans ?_
          rcases hor with rfl | rfl
          all_goals exact hj)
      rw [hw3] at HC
      have HG3 := Aside0.mk (show w3.heap[w.heap.size]? = some (.cells (c9 (k + 1)) 40 (0, 0)) by rw [← hw3]; exact setRow_heap _ _ _ _ _ _ (blk_drew HG.out))
      have HB3 := Aside0.mk (show Below w.heap.size w w3 by rw [← hw3]; exact below_setRow (below_drew1 HB.out) (Nat.le_refl _) _)
      clear hw3 HG HB
      have hz : decide (k < 3) = true := decide_eq_true hlt
      have HO := Aside0.mk hor
      clear hor
      go_wp2
      go_region
      all_goals go_wp2
      go_roundw
      case rel => exact ⟨k + 1, by omega, by omega, by simp, HG3.out, HB3.out⟩
      case measure => simp [intOf]; omega
    · obtain rfl : k = 3 := by omega
      go_wp2
      go_ret
      exact ⟨_, rfl, R9 HG.out (Nat.le_refl _), HB.out⟩
set_option maxRecDepth 100000 in
set_option maxHeartbeats 8000000 in
theorem rep0 (b : Nat) (w : World) : Calls Try.prog 21 #[.slice (some ⟨b, 0, none⟩) 1 1, .int .i64 0] w fun e w' => ∃ v0_ : Value, e = .returned v0_ ∧ Kd.R k40 40 w' w.heap.size (fun _ => True) v0_ [] ∧ Below w.heap.size w w' := by
  have HM := make0
  have HC : ∀ W : World, (Builtin.copy_ #[22, 22] 3 #[.slice (some ⟨w.heap.size, 0, none⟩) 0 0, .slice (some ⟨b, 0, none⟩) 1 1]).run Try.prog W = .ok (.int .i64 0) W := fun W => Steps.run_copy_noneN (P := Try.prog) W 22 22 3 40 _ _ 0 0 1 1 3 Try.underlying22 (by kernel_rfl) rfl
  have HG := Aside0.mk (blk_new w (.cells #[] 40))
  go_enter Try.func21, Try.ntmps21
  go_wp2_with (first | (go_at_call 23; refine (mul10 _).mono ?_; rintro e w' ⟨rfl, rfl⟩))
  clear HC HM
  go_loopw [8] (fun i wr => i = .int .i64 0 ∧ wr = w.alloc (.cells #[] 40)) (fun i _ => 0)
  case atStart => exact ⟨rfl, rfl⟩
  case round =>
    obtain ⟨rfl, rfl⟩ := hrel
    go_wp2
    go_ret
    exact ⟨_, rfl, ⟨fun _ _ => trivial, [], ⟨rfl, .inr ⟨w.heap.size, 0, #[], rfl, Nat.le_refl _, HG.out, Nat.le_refl _, by decide, rfl, rfl⟩⟩, rfl, fun j p hj => by simp at hj⟩, (Below.refl _ _).alloc (Nat.le_refl _) _⟩

end Go.Proofs.Ytcjapomfacohcaa.MWeakClears
