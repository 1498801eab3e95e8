/- The functions that the law reaches in plain Lean, and that the calls come to what these say. No condition. (By wip/myprint.py, this session's program over the kit's print.) -/
import Derived.Test.YtpilkkedejcjaaaProg
import Derived.Below
import Derived.Deep.Draws
import Derived.Deep.AppendLies
import Derived.Maps.AppendAt
import Derived.OwnWalk
import Derived.Laws.BytesArg
import Derived.Laws.MakeOwn
import Derived.Laws.OwnMore
import Derived.Deep.OwnRows
import Derived.Tactics
import Derived.Lib.ConvBytes
import Derived.Laws.Slices
import Derived.WalkKit
import Derived.KernelRfl
import Derived.RowKit3
import Derived.Deep.LoopGhost
import Derived.Deep.QuietTactic
import Derived.BigQuiet
import Derived.WideLaws
import Derived.Deep.DeepCutAuto
import Derived.Deep.CutBlock
import Derived.Deep.RegionHeld3
import Derived.Laws.Rows
import Derived.Lib.AppendStr
import Derived.ArgAppend
import Derived.Laws.IdiomCopy
import Derived.OrdersHeld
import Derived.Laws.BitsLemmas
import Derived.RowKit
import Derived.OpenShut
import Derived.Test.YtpilkkedejcjaaaWWords
import Derived.Test.YtpilkkedejcjaaaWLast
import Derived.Test.YtpilkkedejcjaaaWTab
import Derived.Test.YtpilkkedejcjaaaWFour
import Derived.Test.YtpilkkedejcjaaaWQPut
import Derived.Test.YtpilkkedejcjaaaWApart
import Derived.Test.YtpilkkedejcjaaaWArr
import Derived.Test.YtpilkkedejcjaaaWZeros
import Derived.Test.YtpilkkedejcjaaaWFoot
import Derived.Test.YtpilkkedejcjaaaWKept
import Derived.Test.YtpilkkedejcjaaaWShare
import Derived.Test.YtpilkkedejcjaaaWN
import Derived.Test.YtpilkkedejcjaaaWFootNe
import Derived.Test.YtpilkkedejcjaaaWAt
import Derived.Test.YtpilkkedejcjaaaWEqStruct
import Derived.Test.YtpilkkedejcjaaaWRepsOne
import Derived.Test.YtpilkkedejcjaaaWInv
import Derived.Test.YtpilkkedejcjaaaWInvWords
import Derived.Test.YtpilkkedejcjaaaWGuard
import Derived.Test.YtpilkkedejcjaaaWNEv
import Derived.Test.YtpilkkedejcjaaaWMore
import Derived.RangeFuncBox
import Derived.RangeFuncNested
import Derived.RangeFuncBound
import Derived.RangeFuncCalls
import Derived.RangeFuncLeaves
import Derived.Shelf.Abstract
import Derived.Shelf.RegionOpen
import Derived.OwnWalkIn
import Derived.TacticsInMore
import Derived.LoopNIn
import Derived.LoopIn
import Derived.Test.YtpilkkedejcjaaaSteps
namespace Go.Proofs.Ytpilkkedejcjaaa.MTaskOrder
open Go.RowKit Go.Proofs.YtpilkkedejcjaaaW.PrintWords Go.Proofs.YtpilkkedejcjaaaW.PrintLast Go.Proofs.YtpilkkedejcjaaaW.PrintMore
attribute [local go_sem] max2_int min2_int max_two min_two max_three min_three max_four min_four   -- for this text's walks alone
set_option linter.unusedVariables false
set_option linter.unusedSimpArgs false



def errW : Option Int → Value
  | none => .nilIface
  | some c => .iface 0 (.int .i64 c)
theorem errW_none : errW none = .nilIface := rfl
theorem errW_some (c : Int) : errW (some c) = .iface 0 (.int .i64 c) := rfl

theorem info3 : (Try.prog.info? 3).map (fun i => (i.zero, i.size, i.bytes)) = some (some (.int .i64 0), 1, 8) := by kernel_rfl
theorem info31 : (Try.prog.info? 31).map (fun i => (i.zero, i.size, i.bytes)) = some (some (.agg #[(.int .i64 0), (.int .i64 0), (.int .i64 0)]), 3, 24) := by kernel_rfl
-- the values' own types
/-! #### struct type 31 -/
structure S31 where
  f0 : Int
  f1 : Int
  f2 : Int
def z31 : S31 := ⟨(0 : Int), (0 : Int), (0 : Int)⟩
def k31 : Kd S31 := Kd.iso (Kd.pair (Kd.int .i64) (Kd.pair (Kd.int .i64) (Kd.int .i64))) (fun x : S31 => (x.f0, x.f1, x.f2))
theorem k31_heap : Kd.Heap k31 := Kd.heap_iso _ (Kd.heap_pair (Kd.heap_int .i64) (Kd.heap_pair (Kd.heap_int .i64) (Kd.heap_int .i64)))
theorem k31_open {w : World} {x : S31} {cs : List Value} (h : k31.K w x cs) : cs = [.int .i64 x.f0, .int .i64 x.f1, .int .i64 x.f2] := by
  obtain ⟨_, _, rfl, rfl, ⟨_, _, rfl, rfl, rfl⟩⟩ := h
  exact rfl
theorem k31_openM {w : World} {base : Nat} {ok : Nat → Prop} {x : S31} {cs : List Value} (h : k31.M w base ok x cs) : cs = [.int .i64 x.f0, .int .i64 x.f1, .int .i64 x.f2] := by
  obtain ⟨_, _, rfl, rfl, ⟨_, _, rfl, rfl, rfl⟩⟩ := h
  exact rfl
theorem k31_mk (w : World) (x : S31)  : k31.K w x [.int .i64 x.f0, .int .i64 x.f1, .int .i64 x.f2] := ⟨[.int .i64 x.f0], [.int .i64 x.f1, .int .i64 x.f2], rfl, rfl, ⟨[.int .i64 x.f1], [.int .i64 x.f2], rfl, rfl, rfl⟩⟩
theorem k31_mkM (w : World) (base : Nat) (ok : Nat → Prop) (x : S31)  : k31.M w base ok x [.int .i64 x.f0, .int .i64 x.f1, .int .i64 x.f2] := ⟨[.int .i64 x.f0], [.int .i64 x.f1, .int .i64 x.f2], rfl, rfl, ⟨[.int .i64 x.f1], [.int .i64 x.f2], rfl, rfl, rfl⟩⟩
theorem k31_mkF (W : World) (ok : Nat → Prop) (x : S31) : Kd.FK k31 W ok x [.int .i64 x.f0, .int .i64 x.f1, .int .i64 x.f2] := fun W2 _ => k31_mk W2 x
def rd_T31 (xs : List S31) (i : Int) : S31 := xs.getD i.toNat z31
theorem at_T31 {w : World} {A : Option Addr} {n : Nat} {xs : List S31} (h : Kd.C k31 w A n xs) (i : Int) (h0 : 0 ≤ i) (h1 : i < n) : ∃ ad , A = some ad ∧ w.cell? (ad.add (i.toNat * 3)) = some (.int .i64 (rd_T31 xs i).f0) ∧ w.cell? ⟨(ad.add (i.toNat * 3)).block, (ad.add (i.toNat * 3)).off + 1, none⟩ = some (.int .i64 (rd_T31 xs i).f1) ∧ w.cell? ⟨(ad.add (i.toNat * 3)).block, (ad.add (i.toNat * 3)).off + 2, none⟩ = some (.int .i64 (rd_T31 xs i).f2) := by
  obtain ⟨ad, c, e, _, hK, hc0⟩ := Kd.C_get h z31 i h0 h1
  have hc : ∀ j u, c[j]? = some u → w.cell? (ad.add (i.toNat * 3 + j)) = some u := hc0
  obtain rfl := k31_open hK
  exact ⟨ad, e, hc 0 _ rfl, by rw [← add_field _ _ 1 (by omega)]; exact hc 1 _ rfl, by rw [← add_field _ _ 2 (by omega)]; exact hc 2 _ rfl⟩

def rd_L2 (xs : List (List S31)) (i : Int) : (List S31) := xs.getD i.toNat ([] : List S31)
theorem at_L2 {w : World} {A : Option Addr} {n : Nat} {xs : List (List S31)} (h : Kd.C (Kd.slice 31 k31) w A n xs) (i : Int) (h0 : 0 ≤ i) (h1 : i < n) : ∃ ad A0 c0, A = some ad ∧ w.cell? (ad.add i.toNat) = some (.slice A0 (rd_L2 xs i).length c0) ∧ (rd_L2 xs i).length ≤ c0 ∧ k31.C w A0 (rd_L2 xs i).length (rd_L2 xs i) := by
  obtain ⟨ad, c, e, _, hK, hc0⟩ := Kd.C_get h ([] : List S31) i h0 h1
  have hc : ∀ j u, c[j]? = some u → w.cell? (ad.add (i.toNat * 1 + j)) = some u := hc0
  obtain ⟨A0, c0, rfl, l0, g0⟩ := hK
  exact ⟨ad, A0, c0, e, by have hq := hc 0 _ rfl; rwa [Nat.mul_one, Nat.add_zero] at hq, l0, g0⟩

/-! #### struct type 25 -/
structure S25 where
  f0 : (List S31)
  f1 : Int
def z25 : S25 := ⟨([] : List S31), (0 : Int)⟩
def k25 : Kd S25 := Kd.iso (Kd.pair (Kd.slice 31 k31) (Kd.int .i64)) (fun x : S25 => (x.f0, x.f1))
theorem k25_heap : Kd.Heap k25 := Kd.heap_iso _ (Kd.heap_pair (Kd.heap_slice 31 k31_heap) (Kd.heap_int .i64))
theorem k25_open {w : World} {x : S25} {cs : List Value} (h : k25.K w x cs) : ∃ A0 c0, cs = [.slice A0 x.f0.length c0, .int .i64 x.f1] ∧ x.f0.length ≤ c0 ∧ k31.C w A0 x.f0.length x.f0 := by
  obtain ⟨_, _, rfl, ⟨A0, c0, rfl, l0, g0⟩, rfl⟩ := h
  exact ⟨A0, c0, rfl, l0, g0⟩
theorem k25_openM {w : World} {base : Nat} {ok : Nat → Prop} {x : S25} {cs : List Value} (h : k25.M w base ok x cs) : ∃ v0, cs = [v0, .int .i64 x.f1] ∧ k31.R 31 w base ok v0 x.f0 := by
  obtain ⟨_, _, rfl, ⟨v0, rfl, g0⟩, rfl⟩ := h
  exact ⟨v0, rfl, g0⟩
theorem k25_mk (w : World) (x : S25) {A0 : Option Addr} {c0 : Nat} (l0 : x.f0.length ≤ c0) (g0 : k31.C w A0 x.f0.length x.f0) : k25.K w x [.slice A0 x.f0.length c0, .int .i64 x.f1] := ⟨[.slice A0 x.f0.length c0], [.int .i64 x.f1], rfl, ⟨A0, c0, rfl, l0, g0⟩, rfl⟩
theorem k25_mkM (w : World) (base : Nat) (ok : Nat → Prop) (x : S25) {v0 : Value} (g0 : k31.R 31 w base ok v0 x.f0) : k25.M w base ok x [v0, .int .i64 x.f1] := ⟨[v0], [.int .i64 x.f1], rfl, ⟨v0, rfl, g0⟩, rfl⟩
theorem k25_openF {W : World} {ok : Nat → Prop} {x : S25} {cs : List Value} (h : Kd.FK k25 W ok x cs) : ∃ A0 c0, cs = [.slice A0 x.f0.length c0, .int .i64 x.f1] ∧ x.f0.length ≤ c0 ∧ Kd.F k31 W ok A0 x.f0.length x.f0 := by
  obtain ⟨A0, c0, rfl, l0, _⟩ := k25_open (Kd.FK_now h)
  exact ⟨A0, c0, rfl, l0, (fun W' hW => by obtain ⟨A0_, c0_, he, l0_, g0_⟩ := k25_open (h W' hW); injection (Option.some.inj (show some (Value.slice A0 x.f0.length c0) = some (Value.slice A0_ x.f0.length c0_) from congrArg (fun l => l[0]?) he)) with ha_ _ _; rw [ha_]; exact g0_)⟩
theorem k25_mkF (W : World) (ok : Nat → Prop) (x : S25) {A0 : Option Addr} {c0 : Nat} (l0 : x.f0.length ≤ c0) (g0 : Kd.F k31 W ok A0 x.f0.length x.f0) : Kd.FK k25 W ok x [.slice A0 x.f0.length c0, .int .i64 x.f1] := fun W2 hW => k25_mk W2 x l0 (g0 W2 hW)
def rd_T25 (xs : List S25) (i : Int) : S25 := xs.getD i.toNat z25
theorem at_T25 {w : World} {A : Option Addr} {n : Nat} {xs : List S25} (h : Kd.C k25 w A n xs) (i : Int) (h0 : 0 ≤ i) (h1 : i < n) : ∃ ad A0 c0, A = some ad ∧ w.cell? (ad.add (i.toNat * 2)) = some (.slice A0 (rd_T25 xs i).f0.length c0) ∧ w.cell? ⟨(ad.add (i.toNat * 2)).block, (ad.add (i.toNat * 2)).off + 1, none⟩ = some (.int .i64 (rd_T25 xs i).f1) ∧ (rd_T25 xs i).f0.length ≤ c0 ∧ k31.C w A0 (rd_T25 xs i).f0.length (rd_T25 xs i).f0 := by
  obtain ⟨ad, c, e, _, hK, hc0⟩ := Kd.C_get h z25 i h0 h1
  have hc : ∀ j u, c[j]? = some u → w.cell? (ad.add (i.toNat * 2 + j)) = some u := hc0
  obtain ⟨A0, c0, rfl, l0, g0⟩ := k25_open hK
  exact ⟨ad, A0, c0, e, hc 0 _ rfl, by rw [← add_field _ _ 1 (by omega)]; exact hc 1 _ rfl, l0, g0⟩

def rd_L5 (xs : List (List Int)) (i : Int) : (List Int) := xs.getD i.toNat ([] : List Int)
theorem at_L5 {w : World} {A : Option Addr} {n : Nat} {xs : List (List Int)} (h : Kd.C (Kd.slice 3 (Kd.int .i64)) w A n xs) (i : Int) (h0 : 0 ≤ i) (h1 : i < n) : ∃ ad A0 c0, A = some ad ∧ w.cell? (ad.add i.toNat) = some (.slice A0 (rd_L5 xs i).length c0) ∧ (rd_L5 xs i).length ≤ c0 ∧ (Kd.int .i64).C w A0 (rd_L5 xs i).length (rd_L5 xs i) := by
  obtain ⟨ad, c, e, _, hK, hc0⟩ := Kd.C_get h ([] : List Int) i h0 h1
  have hc : ∀ j u, c[j]? = some u → w.cell? (ad.add (i.toNat * 1 + j)) = some u := hc0
  obtain ⟨A0, c0, rfl, l0, g0⟩ := hK
  exact ⟨ad, A0, c0, e, by have hq := hc 0 _ rfl; rwa [Nat.mul_one, Nat.add_zero] at hq, l0, g0⟩

attribute [local go_sem] Oper.semAt_some
open Go.Shelf
/-- Where the tasks of a kind are. -/
def ofk (l : List S31) (kd : Int) : List Int := (l.filter fun x => x.f0 == kd).map S31.f1
theorem ofk_hit (l : List S31) (kd : Int) (k : Nat) (h : k < l.length) (hx : ((rd_T31 l (k : Int)).f0 == kd) = true) : ofk (l.take (k + 1)) kd = ofk (l.take k) kd ++ [(rd_T31 l (k : Int)).f1] := by
  have e : rd_T31 l (k : Int) = l[k] := by unfold rd_T31; rw [Int.toNat_natCast, List.getD_eq_getElem?_getD, List.getElem?_eq_getElem h]; rfl
  rw [e] at hx ⊢
  unfold ofk
  rw [List.take_succ_eq_append_getElem h, List.filter_append, List.map_append]
  simp [hx]
theorem ofk_miss (l : List S31) (kd : Int) (k : Nat) (h : k < l.length) (hx : ((rd_T31 l (k : Int)).f0 == kd) = false) : ofk (l.take (k + 1)) kd = ofk (l.take k) kd := by
  have e : rd_T31 l (k : Int) = l[k] := by unfold rd_T31; rw [Int.toNat_natCast, List.getD_eq_getElem?_getD, List.getElem?_eq_getElem h]; rfl
  rw [e] at hx
  unfold ofk
  rw [List.take_succ_eq_append_getElem h, List.filter_append, List.map_append]
  simp [hx]
theorem ofk_prefix (l : List S31) (kd : Int) (k : Nat) : ofk (l.take k) kd <+: ofk l kd := by
  unfold ofk
  exact ((List.take_prefix k l).filter _).map _
theorem ofk_len (l : List S31) (kd : Int) : (ofk l kd).length ≤ l.length := by
  unfold ofk; rw [List.length_map]; exact List.length_filter_le _ _
/-- What a round keeps: what lay below n₀, and the kind's box. -/
def KpB (n₀ b : Nat) (W W' : World) : Prop := Below n₀ W W' ∧ W'.heap[b]? = W.heap[b]?
theorem KpB.refl (n₀ b : Nat) (W : World) : KpB n₀ b W W := ⟨Below.refl _ _, rfl⟩
theorem KpB.trans {n₀ b : Nat} {A B C : World} (h : KpB n₀ b A B) (k : KpB n₀ b B C) : KpB n₀ b A C := ⟨h.1.trans k.1, k.2.trans h.2⟩
theorem KpB.alloc {n₀ b : Nat} {W : World} (h : n₀ ≤ W.heap.size) (hb : b < W.heap.size) (o : Obj) : KpB n₀ b W (W.alloc o) := ⟨(Below.refl _ _).alloc h _, Below.heap_alloc W o b hb⟩
theorem KpB.cell {n₀ b : Nat} {W W' : World} (h : KpB n₀ b W W') {v : Value} (hc : W.cell? ⟨b, 0, none⟩ = some v) : W'.cell? ⟨b, 0, none⟩ = some v := (World.cell?_of_block (a := ⟨b, 0, none⟩) h.2).trans hc
theorem kpB_b {w : World} {n₀ b : Nat} (hn : n₀ ≤ w.heap.size) (hb : b < w.heap.size) (W : World) (l : Nat) (o o' : Obj) (hl : w.heap.size ≤ l) (h1 : W.heap[l]? = some o) (h2 : o.isCells = false) (h3 : o.isWalk = false) : KpB n₀ b W (W.putObj l o') :=
  ⟨belowK_b hn W l o o' hl h1 h2 h3, by simp only [World.putObj]; rw [Array.getElem?_setIfInBounds_ne (by omega)]⟩
theorem KpB.set {n₀ b : Nat} {W W' : World} (h : KpB n₀ b W W') {g i : Nat} (hg : n₀ ≤ g) (hb : g ≠ b) (u : Value) : KpB n₀ b W (W'.setCell ⟨g, i, none⟩ u) := ⟨h.1.setCell (p := ⟨g, i, none⟩) hg _, (Below.heap_setCell W' ⟨g, i, none⟩ u b (Ne.symm hb)).trans h.2⟩
set_option maxRecDepth 100000 in
set_option maxHeartbeats 2000000 in
/-- task.of's closure, for every loop body that keeps what lay below n₀. -/
theorem of1_in (F : Fence) (n : Nat) (h21 : F.fn 21) (hro : F.round = none) (hn : 1 ≤ n) (l Bq Bk n₀ : Nat) (A : Option Addr) (c : Nat) (xs : List S31) (kd : Int) (hbig : xs.length ≤ 1000000) (J Jx : List Int → World → Prop)
    (W : World) (hn0 : n₀ ≤ W.heap.size) (hJ : AbidesFrom W.heap.size J)
    (hY : ∀ pre x W, J pre W → pre.length < xs.length → YieldAt F (n - 1) Try.prog l #[.int .i64 x] W fun e W' =>
      (e = .returned (.bool true) ∧ J (pre ++ [x]) W' ∧ KpB n₀ Bk W W') ∨ (e = .returned (.bool false) ∧ Jx (pre ++ [x]) W'))
    (hBk : Bk < W.heap.size) (hq0 : W.cell? ⟨Bq, 0, none⟩ = some (.slice A xs.length c)) (hk0 : W.cell? ⟨Bk, 0, none⟩ = some (.int .i64 kd)) (hC : ∀ W', Below n₀ W W' → Kd.C k31 W' A xs.length xs) (h0 : J [] W) :
    CallsIn F n Try.prog 21 #[.func (.yield l) #[] #[], .pointer (some ⟨Bq, 0, none⟩), .pointer (some ⟨Bk, 0, none⟩)] W fun e W' => (∃ v, e = .returned v) ∧
      ((∃ ys, ys = ofk xs kd ∧ J ys W') ∨ (∃ pre, pre <+: ofk xs kd ∧ Jx pre W')) := by
  have HC := Aside0.mk hC
  clear hC
  refine callsIn_of_wp Try.func21 rfl h21 ?_ hro
  simp only [Try.ntmps21, List.size_toArray, List.length_cons, List.length_nil, Nat.reduceAdd, Nat.reduceSub, Array.replicate_succ, Array.replicate_zero, List.push_toArray, List.append_toArray, List.nil_append, List.cons_append]
  gi_wp2
  gi_loopw [9] (fun i wr => ∃ k : Nat, k ≤ xs.length ∧ i = .int .i64 k ∧ J (ofk (xs.take k) kd) wr ∧ KpB n₀ Bk W wr)
    (fun i _ => xs.length - (intOf i).toNat)
  case atStart => exact ⟨0, Nat.zero_le _, rfl, by simpa [ofk] using h0, KpB.refl _ _ _⟩
  case round =>
    obtain ⟨k, hk, rfl, hJs, hnx⟩ := hrel
    by_cases hlt : k < xs.length
    · obtain ⟨ad, e, hcx, hcy, hcz⟩ := at_T31 (HC.out wr hnx.1) (k : Int) (by omega) (by omega)
      cases e
      rw [Int.toNat_natCast] at hcx hcy hcz
      have hk1 : wr.cell? ⟨Bk, 0, none⟩ = some (.int .i64 kd) := hnx.cell hk0
      have hbA : KpB n₀ Bk wr (wr.alloc (.cells #[.int .i64 (rd_T31 xs (k : Int)).f0, .int .i64 (rd_T31 xs (k : Int)).f1, .int .i64 (rd_T31 xs (k : Int)).f2] 31)) := KpB.alloc (Nat.le_trans hn0 hnx.1.size) (Nat.lt_of_lt_of_le hBk hnx.1.size) _
      have hk2 : (wr.alloc (.cells #[.int .i64 (rd_T31 xs (k : Int)).f0, .int .i64 (rd_T31 xs (k : Int)).f1, .int .i64 (rd_T31 xs (k : Int)).f2] 31)).cell? ⟨Bk, 0, none⟩ = some (.int .i64 kd) := hbA.cell hk1
      have hJA := hJ _ _ _ none hJs (World.grownBy_alloc wr (.cells #[.int .i64 (rd_T31 xs (k : Int)).f0, .int .i64 (rd_T31 xs (k : Int)).f1, .int .i64 (rd_T31 xs (k : Int)).f2] 31) none) (fun r e => by cases e)
      cases hx : ((rd_T31 xs (k : Int)).f0 == kd) with
      | true =>
        have HX := Aside0.mk hx
        obtain ⟨fn, tmps, assign, body, hy, hR⟩ := hY _ (rd_T31 xs (k : Int)).f1 _ hJA (by have := ofk_len (xs.take k) kd; rw [List.length_take] at this; omega)
        gi_wp2
        refine hR.mono ?_
        rintro e W3 (⟨rfl, hJ3, hk3⟩ | ⟨rfl, hJx3⟩)
        · gi_wp2
          go_roundw
          case rel => exact ⟨k + 1, by omega, by simp, by rw [ofk_hit xs kd k hlt HX.out]; exact hJ3, (hnx.trans hbA).trans hk3⟩
          case measure => simp [intOf]; omega
        · gi_wp2
          refine bodyPost_ret (results_none rfl _ _ _) rfl ?_
          exact ⟨⟨_, rfl⟩, .inr ⟨_, by rw [← ofk_hit xs kd k hlt HX.out]; exact ofk_prefix _ _ _, hJx3⟩⟩
      | false =>
        have HX := Aside0.mk hx
        gi_wp2
        refine ⟨fun _ h => (by cases h), ?_⟩
        gi_wp2
        go_roundw
        case rel => exact ⟨k + 1, by omega, by simp, by rw [ofk_miss xs kd k hlt HX.out]; exact hJA, hnx.trans hbA⟩
        case measure => simp [intOf]; omega
    · obtain rfl : k = xs.length := by omega
      gi_wp2
      go_end0
      exact ⟨⟨_, rfl⟩, .inl ⟨_, rfl, by simpa using hJs⟩⟩
theorem field25 (v : Value) (x : Int) (w : World) : (Instr.field 25 (.agg #[v, .int .i64 x]) 1).run Try.prog w = .ok (.int .i64 x) w := by kernel_rfl
theorem cell_new_l (W : World) (v : Value) (t : TypeId) : (W.alloc (.cells #[v] t)).cell? ⟨W.heap.size, 0, none⟩ = some v ∧ (W.alloc (.cells #[v] t)).frozen? ⟨W.heap.size, 0, none⟩ = false :=
  ⟨(Boxed.new W t v).cell, (Boxed.new W t v).frozen⟩
theorem cell_alloc_l {W : World} {a : Addr} {v : Value} (o : Obj) (h : W.cell? a = some v) : (W.alloc o).cell? a = some v := cell_kept h (World.grownBy_alloc W o none) (fun r e => by cases e)
theorem frozen_alloc_l {W : World} {a : Addr} {v : Value} (o : Obj) (h : W.cell? a = some v) (hf : W.frozen? a = false) : (W.alloc o).frozen? a = false := (frozen_kept h (World.grownBy_alloc W o none) (fun r e => by cases e)).trans hf
theorem ownsRow_le {W : World} {b b' e sz : Nat} {v : Value} {n : Nat} {xs : List Value} (h : W.ownsRow b e sz v n xs) (hb : b' ≤ b) : W.ownsRow b' e sz v n xs := by
  obtain ⟨h1, h2 | ⟨g, cap, cur, e1, e2, e3⟩⟩ := h
  · exact ⟨h1, .inl h2⟩
  · exact ⟨h1, .inr ⟨g, cap, cur, e1, Nat.le_trans hb e2, e3⟩⟩
theorem R_of_own {w0 : Nat} {W : World} {v : Value} {xs : List Int} (h : W.ownsRow w0 3 1 v xs.length (xs.map (Value.int .i64))) : Kd.R (Kd.int .i64) 3 W w0 (fun k => w0 ≤ k) v xs := by
  refine ⟨fun k hk => own_base h k hk, xs.map (Value.int .i64), h, by simp [Kd.int, Kd.scalar], fun j p hj => ?_⟩
  show List.take 1 (List.drop (j * 1) (xs.map (Value.int .i64))) = [Value.int .i64 p]
  have hlt : j < xs.length := (List.getElem?_eq_some_iff.1 hj).1
  have e : xs[j] = p := (List.getElem?_eq_some_iff.1 hj).2
  rw [Nat.mul_one, List.drop_eq_getElem_cons (by simpa using hlt)]
  simp [e]
/-- The two boxes that the closure holds. -/
def qbox (w : World) (A : Option Addr) (n c : Nat) (cap kd : Int) : World := (w.alloc (.cells #[.slice A n c, .int .i64 cap] 25)).alloc (.cells #[.int .i64 kd] 3)
theorem qbox_size (w : World) (A : Option Addr) (n c : Nat) (cap kd : Int) : (qbox w A n c cap kd).heap.size = w.heap.size + 1 + 1 := by simp [qbox]
theorem qbox_below (w : World) (A : Option Addr) (n c : Nat) (cap kd : Int) {n₀ : Nat} (h : n₀ ≤ w.heap.size) : Below n₀ w (qbox w A n c cap kd) := ((Below.refl _ w).alloc h _).alloc (by simp; omega) _
theorem qbox_cells (w : World) (A : Option Addr) (n c : Nat) (cap kd : Int) : (qbox w A n c cap kd).cell? ⟨w.heap.size, 0, none⟩ = some (.slice A n c) ∧ (qbox w A n c cap kd).cell? ⟨w.heap.size, 1, none⟩ = some (.int .i64 cap) ∧ (qbox w A n c cap kd).cell? ⟨w.heap.size + 1, 0, none⟩ = some (.int .i64 kd) := by
  have h1 : (qbox w A n c cap kd).heap[w.heap.size]? = some (.cells #[.slice A n c, .int .i64 cap] 25 (0, 0)) := blk_alloc (blk_new _ _) _
  have h2 : (qbox w A n c cap kd).heap[w.heap.size + 1]? = some (.cells #[.int .i64 kd] 3 (0, 0)) := by
    have h := blk_new (w.alloc (.cells #[.slice A n c, .int .i64 cap] 25)) (.cells #[.int .i64 kd] 3)
    rw [World.size_alloc] at h
    exact h
  exact ⟨(blk_cell h1 0).trans rfl, (blk_cell h1 1).trans rfl, (blk_cell h2 0).trans rfl⟩
set_option maxHeartbeats 1000000 in
theorem of_in (F : Fence) (n : Nat) (h17 : F.fn 17) (hro : F.round = none) (A : Option Addr) (len cap : Nat) (cp kd : Int) (w : World) :
    CallsIn F n Try.prog 17 #[.agg #[.slice A len cap, .int .i64 cp], .int .i64 kd] w fun e w' => e = .returned (.func (.func 21) #[] #[.pointer (some ⟨w.heap.size, 0, none⟩), .pointer (some ⟨w.heap.size + 1, 0, none⟩)]) ∧ w' = qbox w A len cap cp kd := by
  refine callsIn_of_wp Try.func17 rfl h17 ?_ hro
  simp only [Try.ntmps17, List.size_toArray, List.length_cons, List.length_nil, Nat.reduceAdd, Nat.reduceSub, Array.replicate_succ, Array.replicate_zero, List.push_toArray, List.append_toArray, List.nil_append, List.cons_append]
  gi_wp2
  go_ret
  exact ⟨rfl, rfl⟩
theorem of_stops (F : Fence) (n : Nat) (h21 : F.fn 21) (hro : F.round = none) (hn : 1 ≤ n) (Bq Bk n₀ : Nat) (A : Option Addr) (c : Nat) (xs : List S31) (cap kd : Int) (hbig : xs.length ≤ 1000000) (w : World) (hBq : Bq < w.heap.size) (hBk : Bk < w.heap.size)
    (hn₀ : n₀ ≤ w.heap.size)
    (hc : w.cell? ⟨Bq, 0, none⟩ = some (.slice A xs.length c) ∧ w.cell? ⟨Bq, 1, none⟩ = some (.int .i64 cap) ∧ w.cell? ⟨Bk, 0, none⟩ = some (.int .i64 kd)) (hC : ∀ W', Below n₀ w W' → Kd.C k31 W' A xs.length xs) :
    SeqStopsK F n Try.prog 21 #[.pointer (some ⟨Bq, 0, none⟩), .pointer (some ⟨Bk, 0, none⟩)] (fun x : Int => #[Value.int .i64 x]) (KpB n₀ Bk) (fun ys => ys = ofk xs kd) (fun pre => pre <+: ofk xs kd) xs.length w := fun l J Jx W hW hJ _ hY h0 =>
  of1_in F n h21 hro hn l Bq Bk n₀ A c xs kd hbig J Jx W (Nat.le_trans hn₀ hW.size) hJ hY (Nat.lt_of_lt_of_le hBk hW.size) ((hW.cell (p := ⟨Bq, 0, none⟩) hBq).trans hc.1) ((hW.cell (p := ⟨Bk, 0, none⟩) hBk).trans hc.2.2) (fun W' hb => hC W' ((hW.mono hn₀).trans hb)) h0
set_option maxRecDepth 100000 in
set_option maxHeartbeats 2000000 in
/-- slices.AppendSeq(nil, of(..)). -/
theorem appendSeq_in (F : Fence) (n : Nat) (h22 : F.fn 22) (h21 : F.fn 21) (hro : F.round = none) (hn : 2 ≤ n) (Bq Bk : Nat) (A : Option Addr) (c : Nat) (xs : List S31) (cap kd : Int) (hbig : xs.length ≤ 1000000) (w : World) (hBq : Bq < w.heap.size) (hBk : Bk < w.heap.size)
    (hc : w.cell? ⟨Bq, 0, none⟩ = some (.slice A xs.length c) ∧ w.cell? ⟨Bq, 1, none⟩ = some (.int .i64 cap) ∧ w.cell? ⟨Bk, 0, none⟩ = some (.int .i64 kd)) (hC : ∀ W', Below w.heap.size w W' → Kd.C k31 W' A xs.length xs) :
    CallsIn F n Try.prog 22 #[.slice none 0 0, .func (.func 21) #[] #[.pointer (some ⟨Bq, 0, none⟩), .pointer (some ⟨Bk, 0, none⟩)]] w fun e W' => ∃ v, e = .returned v ∧ W'.ownsRow w.heap.size 3 1 v (ofk xs kd).length ((ofk xs kd).map (Value.int .i64)) ∧ Below w.heap.size w W' := by
  have h1 : 1 ≤ n := by omega
  have HC := Aside0.mk hC
  clear hC
  obtain ⟨i0, hi, hz0, hz1, hz2⟩ := info_parts info3
  refine callsIn_of_wp_marks Try.func22 rfl h22 ?_ hro
  simp only [Try.ntmps22, List.size_toArray, List.length_cons, List.length_nil, Nat.reduceAdd, Nat.reduceSub, Array.replicate_succ, Array.replicate_zero, List.push_toArray, List.append_toArray, List.nil_append, List.cons_append]
  gi_wp2
  have bO := Boxed.new w 35 (.slice none 0 0)
  have hB0 : Below w.heap.size w (w.alloc (.cells #[.slice none 0 0] 35)) := (Below.refl _ w).alloc (Nat.le_refl _) _
  refine wpIn_rangeFunc_ownG hro h1 (gf := 21) (lb := #[.pointer (some ⟨Bq, 0, none⟩), .pointer (some ⟨Bk, 0, none⟩)]) rfl h21 (enters_of Try.func21 (by kernel_rfl) rfl)
    (of_stops F (n - 1) h21 hro (by omega) Bq Bk w.heap.size A c xs cap kd hbig _ (by simp; omega) (by simp; omega) (by simp) ⟨cell_alloc_l _ hc.1, cell_alloc_l _ hc.2.1, cell_alloc_l _ hc.2.2⟩ (fun W' hb => HC.out W' (hB0.trans hb))) KpB.trans (kpB_b (by simp) (by simp; omega)) (Below.refl _ _) (fun _ => rfl)
    (fun pre W => (∃ v, Boxed W w.heap.size 35 v ∧ W.ownsRow w.heap.size 3 1 v pre.length (pre.map (Value.int .i64)) ∧ True) ∧ Below w.heap.size w W)
    (fun _ _ _ => False)
    (OwnFrom.and (Own.from (holdsRow_own w.heap.size w.heap.size 35 3 1 (fun pre : List Int => pre.length) (fun pre : List Int => pre.map (Value.int .i64)) (fun _ _ => True)) _) (ownFrom_below (Nat.le_refl _) (by simp)))
    (fun _ _ _ _ _ hs _ _ => hs)
    ⟨⟨_, bO, World.ownsRow_nil _ _ _ _, trivial⟩, hB0⟩
    (fun x => { tmps := #[.slice none 0 0, .func (.func 21) #[] #[.pointer (some ⟨Bq, 0, none⟩), .pointer (some ⟨Bk, 0, none⟩)], .pointer (some ⟨w.heap.size, 0, none⟩), undef, .slice none 0 0, .int .i64 x, .func (.func 21) #[] #[.pointer (some ⟨Bq, 0, none⟩), .pointer (some ⟨Bk, 0, none⟩)], .int .i64 x, undef, undef, undef, undef, undef], defers := [] }) ?assign ?body ?done ?stop
  case assign =>
    intro l x W K hK
    gi_wp2
    exact hK
  case body =>
    rintro l pre x W ⟨⟨v, hv, hrow, -⟩, hB⟩ hlt
    have hc2 := hv.cell
    gi_wp2_with (gi_at_builtin; refine wpListIn_append_own _ rfl _ _ 35 rfl w.heap.size 3 i0 (.int .i64 0) 1 8 Try.underlying35 hi hz0 hz1 hz2 rfl (by decide) _ _ _ rfl (hrow.alloc _) ⟨W.heap.size, 0, none⟩ 1 1 [.int .i64 x] rfl rfl (cell_one_new _ _ _) (by simp [Value.oneCell']) (by unfold maxLen; omega) (by omega) (by have := hB.size; simp; omega) ?_; intro v' w1 hown' hgrow _; obtain ⟨g', cap', rfl⟩ := ownsRow_succ hown'; obtain ⟨hv1, hv2, hr2, hk2, hb2⟩ := hv.appended (by decide) hrow hB.size (Nat.le_refl _) hown' hgrow; have hc1 := hv1.cell; have hf1 := hv1.frozen)
    exact ⟨hk2.from _, ⟨hb2, hb2.block _ hBk⟩, ⟨_, hv2, by simpa using hr2, trivial⟩, hB.trans hb2⟩
  case done =>
    rintro D ys W hD rfl ⟨⟨v, hv, hrow, -⟩, hB⟩ hK
    have hc2 := hv.cell
    gi_wp2
    refine ⟨by simp, .inl ⟨_, _, rfl, run_takeDeferred hK, ?_⟩⟩
    exact ⟨_, results_tmp rfl _ _ _, v, rfl, ownsRow_putObj hrow _ hK rfl, hB.trans (belowK_b (w := w) (Nat.le_refl _) W D _ _ (by simp at hD; omega) hK rfl rfl)⟩
  case stop =>
    rintro D c pre W _ _ h _
    exact h.elim
set_option maxHeartbeats 1000000 in
theorem collect_in (F : Fence) (n : Nat) (h18 : F.fn 18) (h22 : F.fn 22) (h21 : F.fn 21) (hro : F.round = none) (hn : 3 ≤ n) (Bq Bk : Nat) (A : Option Addr) (c : Nat) (xs : List S31) (cap kd : Int) (hbig : xs.length ≤ 1000000) (w : World) (hBq : Bq < w.heap.size) (hBk : Bk < w.heap.size)
    (hc : w.cell? ⟨Bq, 0, none⟩ = some (.slice A xs.length c) ∧ w.cell? ⟨Bq, 1, none⟩ = some (.int .i64 cap) ∧ w.cell? ⟨Bk, 0, none⟩ = some (.int .i64 kd)) (hC : ∀ W', Below w.heap.size w W' → Kd.C k31 W' A xs.length xs) :
    CallsIn F n Try.prog 18 #[.func (.func 21) #[] #[.pointer (some ⟨Bq, 0, none⟩), .pointer (some ⟨Bk, 0, none⟩)]] w fun e W' => ∃ v, e = .returned v ∧ W'.ownsRow w.heap.size 3 1 v (ofk xs kd).length ((ofk xs kd).map (Value.int .i64)) ∧ Below w.heap.size w W' := by
  have h1 : 1 ≤ n := by omega
  have HC := Aside0.mk hC
  clear hC
  refine callsIn_of_wp Try.func18 rfl h18 ?_ hro
  simp only [Try.ntmps18, List.size_toArray, List.length_cons, List.length_nil, Nat.reduceAdd, Nat.reduceSub, Array.replicate_succ, Array.replicate_zero, List.push_toArray, List.append_toArray, List.nil_append, List.cons_append]
  gi_wp2_with (gi_at_call 22; refine (appendSeq_in F (n - 1) h22 h21 hro (by omega) Bq Bk A c xs cap kd hbig _ hBq hBk hc HC.out).mono ?_; rintro e w' ⟨v, rfl, ho, hb⟩)
  go_ret
  exact ⟨v, rfl, ho, hb⟩
set_option maxHeartbeats 1000000 in
theorem held_in (F : Fence) (n : Nat) (h12 : F.fn 12) (h17 : F.fn 17) (h18 : F.fn 18) (h22 : F.fn 22) (h21 : F.fn 21) (hro : F.round = none) (hn : 4 ≤ n) (A : Option Addr) (c : Nat) (xs : List S31) (cap : Int) (hbig : xs.length ≤ 1000000) (w : World) (hC : Kd.C k31 w A xs.length xs) :
    CallsIn F n Try.prog 12 #[.agg #[.slice A xs.length c, .int .i64 cap]] w fun e W' => ∃ v, e = .returned v ∧ W'.ownsRow w.heap.size 3 1 v (ofk xs 1).length ((ofk xs 1).map (Value.int .i64)) ∧ Below w.heap.size w W' := by
  have h1 : 1 ≤ n := by omega
  have HC := Aside0.mk hC
  clear hC
  have hB0 : Below w.heap.size w (w.alloc (.cells #[.slice A xs.length c, .int .i64 cap] 25)) := (Below.refl _ w).alloc (Nat.le_refl _) _
  have hB1 : Below w.heap.size w (qbox (w.alloc (.cells #[.slice A xs.length c, .int .i64 cap] 25)) A xs.length c cap 1) := hB0.trans (qbox_below _ _ _ _ _ _ (by simp))
  have hq := qbox_cells (w.alloc (.cells #[.slice A xs.length c, .int .i64 cap] 25)) A xs.length c cap 1
  have hs := qbox_size (w.alloc (.cells #[.slice A xs.length c, .int .i64 cap] 25)) A xs.length c cap 1
  simp only [World.size_alloc] at hq hs
  have HQ := Aside0.mk hq
  have HS := Aside0.mk hs
  clear hq hs
  refine callsIn_of_wp Try.func12 rfl h12 ?_ hro
  simp only [Try.ntmps12, List.size_toArray, List.length_cons, List.length_nil, Nat.reduceAdd, Nat.reduceSub, Array.replicate_succ, Array.replicate_zero, List.push_toArray, List.append_toArray, List.nil_append, List.cons_append]
  gi_wp2_with (first | (gi_at_call 17; refine (of_in F (n - 1) h17 hro _ _ _ _ _ _).mono ?_; rintro e w' ⟨rfl, rfl⟩) | (gi_at_call 18; refine (collect_in F (n - 1) h18 h22 h21 hro (by omega) _ _ A c xs cap 1 hbig _ (by rw [HS.out]; omega) (by rw [HS.out]; omega) HQ.out (fun W' hb => Kd.C_below HC.out (hB1.trans (hb.mono (by rw [HS.out]; omega))))).mono ?_; rintro e w' ⟨v, rfl, ho, hb⟩))
  go_ret
  exact ⟨v, rfl, ownsRow_le ho (by rw [HS.out]; omega), hB1.trans (hb.mono (by rw [HS.out]; omega))⟩
set_option maxRecDepth 100000 in
set_option maxHeartbeats 2000000 in
theorem waits_in (F : Fence) (n : Nat) (h10 : F.fn 10) (h17 : F.fn 17) (h21 : F.fn 21) (hro : F.round = none) (hn : 3 ≤ n) (A : Option Addr) (c : Nat) (xs : List S31) (cap want : Int) (hbig : xs.length ≤ 1000000) (w : World) (hC : Kd.C k31 w A xs.length xs) :
    CallsIn F n Try.prog 10 #[.agg #[.slice A xs.length c, .int .i64 cap], .int .i64 want] w fun e W' => e = .returned (.bool (decide (want ∈ ofk xs 2))) ∧ Below w.heap.size w W' := by
  have h1 : 1 ≤ n := by omega
  have HC := Aside0.mk hC
  clear hC
  refine callsIn_of_wp_marks Try.func10 rfl h10 ?_ hro
  simp only [Try.ntmps10, List.size_toArray, List.length_cons, List.length_nil, Nat.reduceAdd, Nat.reduceSub, Array.replicate_succ, Array.replicate_zero, List.push_toArray, List.append_toArray, List.nil_append, List.cons_append]
  gi_wp2_with (gi_at_call 17; refine (of_in F (n - 1) h17 hro _ _ _ _ _ _).mono ?_; rintro e w' ⟨rfl, rfl⟩)
  obtain ⟨w3, hw3⟩ : ∃ w3, ((w.alloc (.cells #[.slice A xs.length c, .int .i64 cap] 25)).alloc (.cells #[.int .i64 want] 3)).alloc (.cells #[.bool false] 4) = w3 := ⟨_, rfl⟩
  have hB0 : Below w.heap.size w w3 := by rw [← hw3]; exact (((Below.refl _ w).alloc (Nat.le_refl _) _).alloc (by simp) _).alloc (by simp; omega) _
  have hz3 : w3.heap.size = w.heap.size + 1 + 1 + 1 := by rw [← hw3]; simp
  have hB1 : Below w.heap.size w (qbox w3 A xs.length c cap 2) := hB0.trans (qbox_below _ _ _ _ _ _ (by omega))
  have HQ := qbox_cells w3 A xs.length c cap 2
  have hs := qbox_size w3 A xs.length c cap 2
  rw [hz3] at HQ hs
  have HS := Aside0.mk hs
  have c1 : w3.cell? ⟨w.heap.size + 1, 0, none⟩ = some (.int .i64 want) := by
    rw [← hw3]
    have h := (cell_new_l (w.alloc (.cells #[.slice A xs.length c, .int .i64 cap] 25)) (.int .i64 want) 3).1
    rw [World.size_alloc] at h
    exact cell_alloc_l _ h
  have c2 : w3.cell? ⟨w.heap.size + 1 + 1, 0, none⟩ = some (.bool false) ∧ w3.frozen? ⟨w.heap.size + 1 + 1, 0, none⟩ = false := by
    rw [← hw3]
    have h := cell_new_l ((w.alloc (.cells #[.slice A xs.length c, .int .i64 cap] 25)).alloc (.cells #[.int .i64 want] 3)) (.bool false) 4
    rw [World.size_alloc, World.size_alloc] at h
    exact h
  rw [hw3]
  clear hw3
  refine wpIn_rangeFunc_ownG hro h1 (gf := 21) (lb := #[.pointer (some ⟨w.heap.size + 1 + 1 + 1, 0, none⟩), .pointer (some ⟨w.heap.size + 1 + 1 + 1 + 1, 0, none⟩)]) rfl h21 (enters_of Try.func21 (by kernel_rfl) rfl)
    (of_stops F (n - 1) h21 hro (by omega) (w.heap.size + 1 + 1 + 1) (w.heap.size + 1 + 1 + 1 + 1) w.heap.size A c xs cap 2 hbig _ (by rw [HS.out]; omega) (by rw [HS.out]; omega) (by rw [HS.out]; omega) HQ (fun W' hb => Kd.C_below HC.out (hB1.trans hb))) KpB.trans (kpB_b (by rw [HS.out]; omega) (by rw [HS.out]; omega)) (Below.refl _ _) (fun _ => rfl)
    (fun pre W => ((∀ y ∈ pre, y ≠ want) ∧ W.cell? ⟨w.heap.size + 1, 0, none⟩ = some (.int .i64 want) ∧ W.cell? ⟨w.heap.size + 1 + 1, 0, none⟩ = some (.bool false) ∧ W.frozen? ⟨w.heap.size + 1 + 1, 0, none⟩ = false) ∧ Below w.heap.size w W)
    (fun c pre W => (c = .ret ∧ want ∈ pre ∧ W.cell? ⟨w.heap.size + 1 + 1, 0, none⟩ = some (.bool true)) ∧ Below w.heap.size w W)
    (OwnFrom.and (Own.from (fun s A B row hs hg hr => ⟨hs.1, cell_kept hs.2.1 hg hr, cell_kept hs.2.2.1 hg hr, (frozen_kept hs.2.2.1 hg hr).trans hs.2.2.2⟩) _) (ownFrom_below (Nat.le_refl _) (by rw [HS.out]; omega)))
    (fun c => OwnFrom.and (Own.from (fun s A B row hs hg hr => ⟨hs.1, hs.2.1, cell_kept hs.2.2 hg hr⟩) _) (ownFrom_below (Nat.le_refl _) (by rw [HS.out]; omega)))
    ⟨⟨by simp, cell_alloc_l _ (cell_alloc_l _ c1), cell_alloc_l _ (cell_alloc_l _ c2.1), frozen_alloc_l _ (cell_alloc_l _ c2.1) (frozen_alloc_l _ c2.1 c2.2)⟩, hB1⟩
    (fun x => { tmps := #[.agg #[.slice A xs.length c, .int .i64 cap], .int .i64 want, .pointer (some ⟨w.heap.size, 0, none⟩), .pointer (some ⟨w.heap.size + 1, 0, none⟩), .pointer (some ⟨w.heap.size + 1 + 1, 0, none⟩), .int .i64 x, .agg #[.slice A xs.length c, .int .i64 cap], .func (.func 21) #[] #[.pointer (some ⟨w.heap.size + 1 + 1 + 1, 0, none⟩), .pointer (some ⟨w.heap.size + 1 + 1 + 1 + 1, 0, none⟩)], .int .i64 x, undef, undef, undef], defers := [] }) ?assign ?body ?done ?stop
  case assign =>
    intro l x W K hK
    gi_wp2
    exact hK
  case body =>
    rintro l pre x W ⟨⟨hp, hcw, hcr, hfr⟩, hB⟩ _
    gi_wp2
    · rename_i hx
      obtain rfl : x = want := eq_of_beq hx
      exact ⟨(KeepsOthers.setCell _ _ _).from _, ⟨rfl, List.mem_append.2 (.inr (by simp)), World.cell?_setCell_same' _ _ _ (by rw [hcr]; rfl)⟩, hB.setCell (p := ⟨w.heap.size + 1 + 1, 0, none⟩) (by show w.heap.size ≤ w.heap.size + 1 + 1; omega) _⟩
    · rename_i hx
      exact ⟨(KeepsOthers.refl _).from _, KpB.refl _ _ _, ⟨fun y hy => (List.mem_append.1 hy).elim (hp y) (fun e e' => by simp at e; subst e; subst e'; simp at hx), hcw, hcr, hfr⟩, hB⟩
  case done =>
    rintro D ys W hD rfl ⟨⟨hne, _, hcr, hfr⟩, hB⟩ hK
    gi_wp2
    have hK' := (KeepsOthers.setCell W ⟨w.heap.size + 1 + 1, 0, none⟩ (.bool false)).same D _ hK rfl
    refine ⟨by simp, .inl ⟨_, _, rfl, run_takeDeferred hK', ?_⟩⟩
    have hc5 := cell_kept (World.cell?_setCell_same' W ⟨w.heap.size + 1 + 1, 0, none⟩ (.bool false) (by rw [hcr]; rfl)) (grownBy_putObj' _ D (.deferred none)) (fun r e => by cases e; exact ⟨_, hK', rfl⟩)
    refine ⟨.bool false, ?_, by rw [decide_eq_false (fun h => hne want h rfl)], (hB.setCell (p := ⟨w.heap.size + 1 + 1, 0, none⟩) (by show w.heap.size ≤ w.heap.size + 1 + 1; omega) _).trans (belowK_b (w := w) (Nat.le_refl _) _ D _ _ (by rw [HS.out] at hD; omega) hK' rfl rfl)⟩
    simp [results, Try.f10, go_sem, hc5]
  case stop =>
    rintro D c pre W hD hpre ⟨⟨rfl, hin, hcr⟩, hB⟩ hK
    gi_wp2
    refine ⟨by simp, .inl ⟨_, _, rfl, run_takeDeferred hK, ?_⟩⟩
    have hc5 := cell_kept hcr (grownBy_putObj' _ D (.deferred none)) (fun r e => by cases e; exact ⟨_, hK, rfl⟩)
    refine ⟨.bool true, ?_, by rw [decide_eq_true (hpre.subset hin)], hB.trans (belowK_b (w := w) (Nat.le_refl _) W D _ _ (by rw [HS.out] at hD; omega) hK rfl rfl)⟩
    simp [results, Try.f10, go_sem, hc5]
set_option maxRecDepth 100000 in
set_option maxHeartbeats 2000000 in
theorem tcount_in (F : Fence) (n : Nat) (h13 : F.fn 13) (h17 : F.fn 17) (h21 : F.fn 21) (hro : F.round = none) (hn : 3 ≤ n) (A : Option Addr) (c : Nat) (xs : List S31) (cap kd : Int) (hbig : xs.length ≤ 1000000) (w : World) (hC : Kd.C k31 w A xs.length xs) :
    CallsIn F n Try.prog 13 #[.agg #[.slice A xs.length c, .int .i64 cap], .int .i64 kd] w fun e W' => e = .returned (.int .i64 ((ofk xs kd).length : Int)) ∧ Below w.heap.size w W' := by
  have h1 : 1 ≤ n := by omega
  have HC := Aside0.mk hC
  clear hC
  refine callsIn_of_wp_marks Try.func13 rfl h13 ?_ hro
  simp only [Try.ntmps13, List.size_toArray, List.length_cons, List.length_nil, Nat.reduceAdd, Nat.reduceSub, Array.replicate_succ, Array.replicate_zero, List.push_toArray, List.append_toArray, List.nil_append, List.cons_append]
  gi_wp2_with (gi_at_call 17; refine (of_in F (n - 1) h17 hro _ _ _ _ _ _).mono ?_; rintro e w' ⟨rfl, rfl⟩)
  obtain ⟨w3, hw3⟩ : ∃ w3, (w.alloc (.cells #[.slice A xs.length c, .int .i64 cap] 25)).alloc (.cells #[.int .i64 0] 3) = w3 := ⟨_, rfl⟩
  have hB0 : Below w.heap.size w w3 := by rw [← hw3]; exact ((Below.refl _ w).alloc (Nat.le_refl _) _).alloc (by simp) _
  have hz3 : w3.heap.size = w.heap.size + 1 + 1 := by rw [← hw3]; simp
  have hB1 : Below w.heap.size w (qbox w3 A xs.length c cap kd) := hB0.trans (qbox_below _ _ _ _ _ _ (by omega))
  have HQ := qbox_cells w3 A xs.length c cap kd
  have hs := qbox_size w3 A xs.length c cap kd
  rw [hz3] at HQ hs
  have HS := Aside0.mk hs
  have c2 : w3.cell? ⟨w.heap.size + 1, 0, none⟩ = some (.int .i64 0) ∧ w3.frozen? ⟨w.heap.size + 1, 0, none⟩ = false := by
    rw [← hw3]
    have h := cell_new_l (w.alloc (.cells #[.slice A xs.length c, .int .i64 cap] 25)) (.int .i64 0) 3
    rw [World.size_alloc] at h
    exact h
  rw [hw3]
  clear hw3
  refine wpIn_rangeFunc_ownG hro h1 (gf := 21) (lb := #[.pointer (some ⟨w.heap.size + 1 + 1, 0, none⟩), .pointer (some ⟨w.heap.size + 1 + 1 + 1, 0, none⟩)]) rfl h21 (enters_of Try.func21 (by kernel_rfl) rfl)
    (of_stops F (n - 1) h21 hro (by omega) (w.heap.size + 1 + 1) (w.heap.size + 1 + 1 + 1) w.heap.size A c xs cap kd hbig _ (by rw [HS.out]; omega) (by rw [HS.out]; omega) (by rw [HS.out]; omega) HQ (fun W' hb => Kd.C_below HC.out (hB1.trans hb))) KpB.trans (kpB_b (by rw [HS.out]; omega) (by rw [HS.out]; omega)) (Below.refl _ _) (fun _ => rfl)
    (fun pre W => (W.cell? ⟨w.heap.size + 1, 0, none⟩ = some (.int .i64 (pre.length : Int)) ∧ W.frozen? ⟨w.heap.size + 1, 0, none⟩ = false) ∧ Below w.heap.size w W)
    (fun _ _ _ => False)
    (OwnFrom.and (Own.from (fun s A B row hs hg hr => ⟨cell_kept hs.1 hg hr, (frozen_kept hs.1 hg hr).trans hs.2⟩) _) (ownFrom_below (Nat.le_refl _) (by rw [HS.out]; omega)))
    (fun _ _ _ _ _ hs _ _ => hs)
    ⟨⟨cell_alloc_l _ (cell_alloc_l _ c2.1), frozen_alloc_l _ (cell_alloc_l _ c2.1) (frozen_alloc_l _ c2.1 c2.2)⟩, hB1⟩
    (fun x => { tmps := #[.agg #[.slice A xs.length c, .int .i64 cap], .int .i64 kd, .pointer (some ⟨w.heap.size, 0, none⟩), undef, .pointer (some ⟨w.heap.size + 1, 0, none⟩), .agg #[.slice A xs.length c, .int .i64 cap], .int .i64 kd, .func (.func 21) #[] #[.pointer (some ⟨w.heap.size + 1 + 1, 0, none⟩), .pointer (some ⟨w.heap.size + 1 + 1 + 1, 0, none⟩)], .int .i64 x, undef, undef, undef], defers := [] }) ?assign ?body ?done ?stop
  case assign =>
    intro l x W K hK
    gi_wp2
    simpa using hK
  case body =>
    rintro l pre x W ⟨⟨hcn, hfn⟩, hB⟩ hlt
    gi_wp2
    have ew : (pre.length : Int) + 1 = ((pre ++ [x]).length : Int) := by simp
    refine ⟨(KeepsOthers.setCell _ _ _).from _, (KpB.refl _ _ W).set (by omega) (by omega) _, ⟨?_, by rw [World.frozen?_setCell]; exact hfn⟩, hB.setCell (p := ⟨w.heap.size + 1, 0, none⟩) (by simp) _⟩
    rw [← ew]
    exact World.cell?_setCell_same' _ _ _ (by rw [hcn]; rfl)
  case done =>
    rintro D ys W hD rfl ⟨⟨hcn, hfn⟩, hB⟩ hK
    gi_wp2
    have hK' := (KeepsOthers.setCell W ⟨w.heap.size + 1, 0, none⟩ (.int .i64 ((ofk xs kd).length : Int))).same D _ hK rfl
    refine ⟨by simp, .inl ⟨_, _, rfl, run_takeDeferred hK', ?_⟩⟩
    have hc5 := cell_kept (World.cell?_setCell_same' W ⟨w.heap.size + 1, 0, none⟩ (.int .i64 ((ofk xs kd).length : Int)) (by rw [hcn]; rfl)) (grownBy_putObj' _ D (.deferred none)) (fun r e => by cases e; exact ⟨_, hK', rfl⟩)
    refine ⟨.int .i64 ((ofk xs kd).length : Int), ?_, rfl, (hB.setCell (p := ⟨w.heap.size + 1, 0, none⟩) (by simp) _).trans (belowK_b (w := w) (Nat.le_refl _) _ D _ _ (by rw [HS.out] at hD; omega) hK' rfl rfl)⟩
    simp [results, Try.f13, go_sem, hc5]
  case stop =>
    rintro D c pre W _ _ h _
    exact h.elim
open Go.Proofs.Ytpilkkedejcjaaa
theorem flat31 : Steps.Flat k31 := Steps.flat_iso _ (Steps.flat_pair (Steps.flat_int _) (Steps.flat_pair (Steps.flat_int _) (Steps.flat_int _)))
theorem one31 (w : World) (base : Nat) (ok : Nat → Prop) (a b c : Int) : Reps (k31.M w base ok) k31.sz [(⟨a, b, c⟩ : S31)] [.int .i64 a, .int .i64 b, .int .i64 c] :=
  ⟨rfl, fun j p hj => by
    cases j with
    | zero => cases hj; exact k31_mkM w base ok ⟨a, b, c⟩
    | succ j => simp at hj⟩
theorem push_keep {W W' : World} {B : Nat} {v0 v1 v2 v3 v4 : Value} (hb : Below W.heap.size W W') (h1 : B + 1 < W.heap.size)
    (h : W.cell? ⟨B, 0, none⟩ = some v0 ∧ W.cell? ⟨B, 1, none⟩ = some v1 ∧ W.cell? ⟨B + 1, 0, none⟩ = some v2 ∧ W.cell? ⟨B + 1, 1, none⟩ = some v3 ∧ W.cell? ⟨B + 1, 2, none⟩ = some v4) :
    W'.cell? ⟨B, 0, none⟩ = some v0 ∧ W'.cell? ⟨B, 1, none⟩ = some v1 ∧ W'.cell? ⟨B + 1, 0, none⟩ = some v2 ∧ W'.cell? ⟨B + 1, 1, none⟩ = some v3 ∧ W'.cell? ⟨B + 1, 2, none⟩ = some v4 :=
  ⟨(hb.cell (p := ⟨B, 0, none⟩) (by show B < _; omega)).trans h.1, (hb.cell (p := ⟨B, 1, none⟩) (by show B < _; omega)).trans h.2.1, (hb.cell (p := ⟨B + 1, 0, none⟩) h1).trans h.2.2.1, (hb.cell (p := ⟨B + 1, 1, none⟩) h1).trans h.2.2.2.1, (hb.cell (p := ⟨B + 1, 2, none⟩) h1).trans h.2.2.2.2⟩
theorem push_far {W : World} {B : Nat} {v0 v1 v2 v3 v4 : Value} (j : Nat) (u : Value)
    (h : W.cell? ⟨B, 0, none⟩ = some v0 ∧ W.cell? ⟨B, 1, none⟩ = some v1 ∧ W.cell? ⟨B + 1, 0, none⟩ = some v2 ∧ W.cell? ⟨B + 1, 1, none⟩ = some v3 ∧ W.cell? ⟨B + 1, 2, none⟩ = some v4) :
    (W.setCell ⟨B + 1 + 1, j, none⟩ u).cell? ⟨B, 0, none⟩ = some v0 ∧ (W.setCell ⟨B + 1 + 1, j, none⟩ u).cell? ⟨B, 1, none⟩ = some v1 ∧ (W.setCell ⟨B + 1 + 1, j, none⟩ u).cell? ⟨B + 1, 0, none⟩ = some v2 ∧ (W.setCell ⟨B + 1 + 1, j, none⟩ u).cell? ⟨B + 1, 1, none⟩ = some v3 ∧ (W.setCell ⟨B + 1 + 1, j, none⟩ u).cell? ⟨B + 1, 2, none⟩ = some v4 :=
  ⟨(cell_far (by show _ ≠ _; simp; omega) _).trans h.1, (cell_far (by show _ ≠ _; simp; omega) _).trans h.2.1, (cell_far (by show _ ≠ _; simp) _).trans h.2.2.1, (cell_far (by show _ ≠ _; simp) _).trans h.2.2.2.1, (cell_far (by show _ ≠ _; simp) _).trans h.2.2.2.2⟩
theorem bf {w : World} {g : Nat} {t : TypeId} {cs : Array Value} (h : w.heap[g]? = some (.cells cs t (0, 0))) {g' : Nat} (j : Nat) (u : Value) (hne : g' ≠ g) : (w.setCell ⟨g', j, none⟩ u).heap[g]? = some (.cells cs t (0, 0)) := blk_far h (p := ⟨g', j, none⟩) (Ne.symm hne) u
theorem far2 {W : World} {a : Addr} {v : Value} {g : Nat} (h : W.cell? a = some v) (hne : g ≠ a.block) (i j : Nat) (u u' : Value) : ((W.setCell ⟨g, i, none⟩ u).setCell ⟨g, j, none⟩ u').cell? a = some v :=
  (cell_far (p := ⟨g, j, none⟩) (Ne.symm hne) u').trans ((cell_far (p := ⟨g, i, none⟩) (Ne.symm hne) u).trans h)
theorem far3 {W : World} {a : Addr} {v : Value} {g : Nat} (h : W.cell? a = some v) (hne : g ≠ a.block) (i j k : Nat) (u u' u'' : Value) : (((W.setCell ⟨g, i, none⟩ u).setCell ⟨g, j, none⟩ u').setCell ⟨g, k, none⟩ u'').cell? a = some v :=
  (cell_far (p := ⟨g, k, none⟩) (Ne.symm hne) u'').trans (far2 h hne i j u u')
theorem v_away {W : World} {base B n c : Nat} {ok : Nat → Prop} {ad : Addr} {xs : List S31} (h : Kd.V k31 31 W base ok (.slice (some ad) n c) xs) (hok : ∀ k, ok k → k ≠ B + 1 ∧ k ≠ B + 1 + 1) (hn : 0 < xs.length) : ad.block ≠ B + 1 ∧ ad.block ≠ B + 1 + 1 := by
  have h1 := Kd.V_away (g := B + 1) h (fun k hk => (hok k hk).1) hn
  have h2 := Kd.V_away (g := B + 1 + 1) h (fun k hk => (hok k hk).2) hn
  exact ⟨fun e => h1 (by simp [Value.ownBlock, e]), fun e => h2 (by simp [Value.ownBlock, e])⟩
theorem results_cct {P : Program} {fn : Func} {p p' u : Tmp} {ty ty' : TypeId} (h : fn.results = #[.cell p ty, .cell p' ty', .tmp u]) (tmps : Array Value) (w : World) (g g' : Nat) (t t' : TypeId) (cs cs' : Array Value) (fr fr' : Nat × Nat) (d d' : TypeDesc)
    (hp : tmps.getD p undef = .pointer (some ⟨g, 0, none⟩)) (hg : w.heap[g]? = some (.cells cs t fr))
    (hu : P.underlying ty = some d) (hd : (match d with | .struct _ | .array _ _ => true | _ => false) = true) (hi : (P.info? ty).map (·.size) = some cs.size)
    (hp' : tmps.getD p' undef = .pointer (some ⟨g', 0, none⟩)) (hg' : w.heap[g']? = some (.cells cs' t' fr'))
    (hu' : P.underlying ty' = some d') (hd' : (match d' with | .struct _ | .array _ _ => true | _ => false) = true) (hi' : (P.info? ty').map (·.size) = some cs'.size) :
    (results fn tmps).run P w = .ok (.tuple #[.agg cs, .agg cs', tmps.getD u undef]) w := by
  have h1 : tmps[p]?.getD undef = .pointer (some ⟨g, 0, none⟩) := by simpa using hp
  have h2 : tmps[p']?.getD undef = .pointer (some ⟨g', 0, none⟩) := by simpa using hp'
  simp [results, h, h1, h2, asAddr, run_loadVar_row w g t ty cs fr d hg hu hd hi, run_loadVar_row w g' t' ty' cs' fr' d' hg' hu' hd' hi']

end Go.Proofs.Ytpilkkedejcjaaa.MTaskOrder
