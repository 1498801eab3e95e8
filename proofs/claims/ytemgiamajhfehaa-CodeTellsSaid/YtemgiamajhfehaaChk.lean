/- What code.Check and code.Plain come to, of every operation. No condition. -/
import Derived.Test.YtemgiamajhfehaaProg
import Derived.Below
import Derived.WalkKit
import Derived.KernelRfl
import Derived.RowKit3
import Derived.Deep.QuietTactic
import Derived.BigQuiet
import Derived.OrdersHeld
import Derived.OpenShut
import Derived.Test.YtemgiamajhfehaaWWords
import Derived.Test.YtemgiamajhfehaaWLast
import Derived.Test.YtemgiamajhfehaaWTab
import Derived.Test.YtemgiamajhfehaaWInv
import Derived.Test.YtemgiamajhfehaaWMore
import Derived.Laws.EntriesVeiled
import Derived.RegionTactic
import Derived.ChangeAlike
namespace Go.Proofs.Ytemgiamajhfehaa.Chk
open Go.RowKit Go.Proofs.YtemgiamajhfehaaW.PrintWords Go.Proofs.YtemgiamajhfehaaW.PrintLast
set_option linter.unusedVariables false
set_option linter.unusedSimpArgs false
theorem to_c (lo hi : Int) (w : World) : Calls Try.prog 26 #[.int .i64 lo, .int .i64 hi] w fun e w' =>
    e = .returned (.func (.func 27) #[] #[.pointer (some ⟨w.heap.size, 0, none⟩), .pointer (some ⟨w.heap.size + 1, 0, none⟩)]) ∧ w' = (w.alloc (.cells #[.int .i64 lo] 3)).alloc (.cells #[.int .i64 hi] 3) := by
  go_enter Try.func26, Try.ntmps26
  go_wp2
  go_ret
  exact ⟨rfl, rfl⟩
theorem to1_c (lo hi n : Int) (b1 b2 : Nat) (w : World) (h1 : w.heap[b1]? = some (.cells #[.int .i64 lo] 3 (0, 0))) (h2 : w.heap[b2]? = some (.cells #[.int .i64 hi] 3 (0, 0))) :
    Calls Try.prog 27 #[.int .i64 n, .pointer (some ⟨b1, 0, none⟩), .pointer (some ⟨b2, 0, none⟩)] w fun e w' => e = .returned (.bool (decide (lo ≤ n ∧ n ≤ hi))) ∧ w = w' := by
  have c1 : w.cell? ⟨b1, 0, none⟩ = some (.int .i64 lo) := (blk_cell h1 0).trans rfl
  have c2 : w.cell? ⟨b2, 0, none⟩ = some (.int .i64 hi) := (blk_cell h2 0).trans rfl
  clear h1 h2
  by_cases hl : lo ≤ n
  · by_cases hh : n ≤ hi
    · have e : decide (lo ≤ n ∧ n ≤ hi) = true := decide_eq_true ⟨hl, hh⟩
      have E := Aside0.mk e
      clear e
      go_enter Try.func27, Try.ntmps27
      go_wp2
      go_ret
      exact ⟨by rw [E.out]; rfl, rfl⟩
    · have e : decide (lo ≤ n ∧ n ≤ hi) = false := decide_eq_false fun h => hh h.2
      have E := Aside0.mk e
      have e2 : decide (n ≤ hi) = false := decide_eq_false hh
      clear e hh
      go_enter Try.func27, Try.ntmps27
      go_wp2
      go_ret
      exact ⟨by rw [E.out]; rfl, rfl⟩
  · have e : decide (lo ≤ n ∧ n ≤ hi) = false := decide_eq_false fun h => hl h.1
    have E := Aside0.mk e
    have e2 : decide (lo ≤ n) = false := decide_eq_false hl
    clear e hl
    go_enter Try.func27, Try.ntmps27
    go_wp2
    go_ret
    exact ⟨by rw [E.out]; rfl, rfl⟩
structure Ask where
  lo : Int
  hi : Int
  e : Int
  deriving DecidableEq
inductive A where
  | fn (lo hi : Int)
  | ask (x : Ask)
  | row (l : List Ask)
  deriving DecidableEq
/-- A function value that tells whether a number lies from lo to hi. -/
def Fn (w : World) (lo hi : Int) (v : Value) : Prop := ∃ b1 b2, v = .func (.func 27) #[] #[.pointer (some ⟨b1, 0, none⟩), .pointer (some ⟨b2, 0, none⟩)] ∧ w.heap[b1]? = some (.cells #[.int .i64 lo] 3 (0, 0)) ∧ w.heap[b2]? = some (.cells #[.int .i64 hi] 3 (0, 0))
/-- A row of what is asked. -/
def RowV (w : World) (l : List Ask) (v : Value) : Prop := ∃ g cs, v = .slice (some ⟨g, 0, none⟩) l.length l.length ∧ w.heap[g]? = some (.cells cs 59 (0, 0)) ∧ ∀ j x, l[j]? = some x → ∃ f, cs[j * 2]? = some f ∧ cs[j * 2 + 1]? = some (.int .i64 x.e) ∧ Fn w x.lo x.hi f
def Rep (w : World) : A → Value → Prop
  | .fn lo hi, v => Fn w lo hi v
  | .ask x, v => ∃ f, v = .agg #[f, .int .i64 x.e] ∧ Fn w x.lo x.hi f
  | .row l, v => RowV w l v
/-- What is cells lies as it lay. -/
def Grow (w w' : World) : Prop := ∀ (k : Nat) (c : Array Value) (t : TypeId) (fr : Nat × Nat), w.heap[k]? = some (.cells c t fr) → w'.heap[k]? = some (.cells c t fr)
theorem Fn.grow {w w' : World} (hg : Grow w w') {lo hi : Int} {v : Value} (h : Fn w lo hi v) : Fn w' lo hi v := by
  obtain ⟨b1, b2, e, h1, h2⟩ := h
  exact ⟨b1, b2, e, hg _ _ _ _ h1, hg _ _ _ _ h2⟩
theorem RowV.grow {w w' : World} (hg : Grow w w') {l : List Ask} {v : Value} (h : RowV w l v) : RowV w' l v := by
  obtain ⟨g, cs, e, h1, h2⟩ := h
  refine ⟨g, cs, e, hg _ _ _ _ h1, fun j x hj => ?_⟩
  obtain ⟨f, e1, e2, e3⟩ := h2 j x hj
  exact ⟨f, e1, e2, e3.grow hg⟩
theorem Rep.grow {w w' : World} (hg : Grow w w') {α : A} {v : Value} (h : Rep w α v) : Rep w' α v := by
  cases α with
  | fn lo hi => exact Fn.grow hg h
  | ask x => obtain ⟨f, e, h⟩ := h; exact ⟨f, e, h.grow hg⟩
  | row l => exact RowV.grow hg h
theorem grow_below {w w' : World} (h : Below w.heap.size w w') : Grow w w' := fun k c t fr hk => (h.block k (blk_lt hk)).trans hk
theorem Grow.trans {a b c : World} (h : Grow a b) (k : Grow b c) : Grow a c := fun _ _ _ _ hk => k _ _ _ _ (h _ _ _ _ hk)
def slot (a : Act) (t : Nat) : Value := a.tmps.getD t undef
theorem slot_put (a : Act) (d t : Nat) (v : Value) (h : t ≠ d) : slot (a.put (some d) v) t = slot a t := by
  unfold slot Act.put
  simp only [Array.getD_eq_getD_getElem?]
  rw [Array.getElem?_setIfInBounds_ne (Ne.symm h)]
theorem slot_self (a : Act) (d : Nat) (v : Value) (h : d < a.tmps.size) : slot (a.put (some d) v) d = v := by
  unfold slot Act.put
  simp only [Array.getD_eq_getD_getElem?]
  rw [Array.getElem?_setIfInBounds_self_of_lt h]
  rfl
theorem put_size (a : Act) (d : Nat) (v : Value) : (a.put (some d) v).tmps.size = a.tmps.size := by
  unfold Act.put
  simp
theorem put_defers (a : Act) (d : Nat) (v : Value) : (a.put (some d) v).defers = a.defers := rfl
def tabl : List (Nat × Nat × A) := [(1, 23, .ask ⟨0, 5, 6⟩), (2, 24, .fn 0 4), (3, 25, .ask ⟨0, 4, 1⟩), (4, 26, .ask ⟨(-1), 5, 13⟩), (5, 27, .row [⟨0, 5, 6⟩, ⟨0, 4, 1⟩, ⟨(-1), 5, 13⟩]), (7, 28, .ask ⟨0, 5, 6⟩), (8, 29, .ask ⟨0, 5, 6⟩), (9, 30, .row [⟨0, 5, 6⟩, ⟨0, 5, 6⟩]), (11, 31, .ask ⟨0, 5, 6⟩), (12, 32, .row [⟨0, 5, 6⟩]), (14, 33, .ask ⟨0, 5, 6⟩), (15, 34, .ask ⟨0, 5, 6⟩), (16, 35, .ask ⟨0, 3, 5⟩), (17, 36, .row [⟨0, 5, 6⟩, ⟨0, 5, 6⟩, ⟨0, 3, 5⟩]), (19, 37, .ask ⟨0, 5, 6⟩), (20, 38, .ask ⟨0, 3, 5⟩), (21, 39, .ask ⟨(-1), 5, 6⟩), (22, 40, .row [⟨0, 5, 6⟩, ⟨0, 3, 5⟩, ⟨(-1), 5, 6⟩]), (24, 41, .ask ⟨0, 5, 7⟩), (25, 42, .ask ⟨(-1), 5, 6⟩), (26, 43, .ask ⟨(-1), 5, 13⟩), (27, 44, .row [⟨0, 5, 7⟩, ⟨(-1), 5, 6⟩, ⟨(-1), 5, 13⟩]), (29, 45, .ask ⟨0, 5, 6⟩), (30, 46, .ask ⟨0, 5, 7⟩), (31, 47, .row [⟨0, 5, 6⟩, ⟨0, 5, 7⟩]), (33, 48, .ask ⟨0, 5, 6⟩), (34, 49, .ask ⟨(-1), 5, 6⟩), (35, 50, .row [⟨0, 5, 6⟩, ⟨(-1), 5, 6⟩]), (37, 51, .ask ⟨0, 5, 6⟩), (38, 52, .ask ⟨0, 5, 6⟩), (39, 53, .row [⟨0, 5, 6⟩, ⟨0, 5, 6⟩]), (41, 54, .ask ⟨0, 5, 6⟩), (42, 55, .ask ⟨0, 5, 6⟩), (43, 56, .row [⟨0, 5, 6⟩, ⟨0, 5, 6⟩]), (45, 57, .row []), (47, 58, .fn 0 200), (48, 59, .ask ⟨0, 200, 12⟩), (49, 60, .row [⟨0, 200, 12⟩])]
def insl : List (Nat × Int × List Ask) := [(6, 1, [⟨0, 5, 6⟩, ⟨0, 4, 1⟩, ⟨(-1), 5, 13⟩]), (10, 2, [⟨0, 5, 6⟩, ⟨0, 5, 6⟩]), (13, 3, [⟨0, 5, 6⟩]), (18, 4, [⟨0, 5, 6⟩, ⟨0, 5, 6⟩, ⟨0, 3, 5⟩]), (23, 5, [⟨0, 5, 6⟩, ⟨0, 3, 5⟩, ⟨(-1), 5, 6⟩]), (28, 6, [⟨0, 5, 7⟩, ⟨(-1), 5, 6⟩, ⟨(-1), 5, 13⟩]), (32, 7, [⟨0, 5, 6⟩, ⟨0, 5, 7⟩]), (36, 8, [⟨0, 5, 6⟩, ⟨(-1), 5, 6⟩]), (40, 9, [⟨0, 5, 6⟩, ⟨0, 5, 6⟩]), (44, 10, [⟨0, 5, 6⟩, ⟨0, 5, 6⟩]), (46, 11, []), (50, 12, [⟨0, 200, 12⟩])]
def T3 : Bool × List (List Nat × List Nat) := (true, [([], []), ([], []), ([], []), ([2], [2]), ([], []), ([1, 3, 4], [1, 3, 4]), ([0, 5], [0, 5]), ([], []), ([], []), ([7, 8], [7, 8]), ([0, 9], [0, 9]), ([], []), ([11], [11]), ([0, 12], [0, 12]), ([], []), ([], []), ([], []), ([14, 15, 16], [14, 15, 16]), ([0, 17], [0, 17]), ([], []), ([], []), ([], []), ([19, 20, 21], [19, 20, 21]), ([0, 22], [0, 22]), ([], []), ([], []), ([], []), ([24, 25, 26], [24, 25, 26]), ([0, 27], [0, 27]), ([], []), ([], []), ([29, 30], [29, 30]), ([0, 31], [0, 31]), ([], []), ([], []), ([33, 34], [33, 34]), ([0, 35], [0, 35]), ([], []), ([], []), ([37, 38], [37, 38]), ([0, 39], [0, 39]), ([], []), ([], []), ([41, 42], [41, 42]), ([0, 43], [0, 43]), ([], []), ([0, 45], [0, 45]), ([2], []), ([47], [47]), ([48], [48]), ([0, 49], [0, 49]), ([0, 1, 2, 3, 4, 5, 6, 7, 8, 9, 10, 11, 12, 13, 14, 15, 16, 17, 18, 19, 20, 21, 22, 23, 24, 25, 26, 27, 28, 29, 30, 31, 32, 33, 34, 35, 36, 37, 38, 39, 40, 41, 42, 43, 44, 45, 46, 47, 48, 49, 50], [0]), ([], []), ([51, 52], [51, 52]), ([53], [53]), ([54], [54]), ([54], [54]), ([55, 47, 0, 1, 2, 3, 4, 5, 6, 7, 8, 9, 10, 11, 12, 13, 14, 15, 16, 17, 18, 19, 20, 21, 22, 23, 24, 25, 26, 27, 28, 29, 30, 31, 32, 33, 34, 35, 36, 37, 38, 39, 40, 41, 42, 43, 44, 45, 46, 47, 48, 49, 50, 51, 52, 53, 54, 55], [55]), ([56, 57, 0, 1, 2, 3, 4, 5, 6, 7, 8, 9, 10, 11, 12, 13, 14, 15, 16, 17, 18, 19, 20, 21, 22, 23, 24, 25, 26, 27, 28, 29, 30, 31, 32, 33, 34, 35, 36, 37, 38, 39, 40, 41, 42, 43, 44, 45, 46, 47, 48, 49, 50, 51, 52, 53, 54, 55, 56, 57], [56])])
def B3 : List Nat := [0, 0, 0, 4, 0, 30, 63, 0, 0, 384, 897, 0, 2048, 6145, 0, 0, 0, 114688, 245761, 0, 0, 0, 3670016, 7864321, 0, 0, 0, 117440512, 251658241, 0, 0, 1610612736, 3758096385, 0, 0, 25769803776, 60129542145, 0, 0, 412316860416, 962072674305, 0, 0, 6597069766656, 15393162788865, 0, 35184372088833, 4, 140737488355332, 422212465065988, 985162418487301, 2251799813685247, 0, 9007199254740991, 18014398509481983, 36028797018963967, 36028797018963967, 72057594037927935, 288230376151711743]
theorem tab3 : rtab .any (opsOf Try.f22 3) = T3 := by kernel_rfl
theorem bits3 : waitsOk T3.2 B3 = true := by kernel_rfl
/-- What is asked of a kind. -/
def specOf (k : Int) : Option (List Ask) := if k = 1 then some [⟨0, 5, 6⟩, ⟨0, 4, 1⟩, ⟨(-1), 5, 13⟩] else if k = 2 then some [⟨0, 5, 6⟩, ⟨0, 5, 6⟩] else if k = 3 then some [⟨0, 5, 6⟩] else if k = 4 then some [⟨0, 5, 6⟩, ⟨0, 5, 6⟩, ⟨0, 3, 5⟩] else if k = 5 then some [⟨0, 5, 6⟩, ⟨0, 3, 5⟩, ⟨(-1), 5, 6⟩] else if k = 6 then some [⟨0, 5, 7⟩, ⟨(-1), 5, 6⟩, ⟨(-1), 5, 13⟩] else if k = 7 then some [⟨0, 5, 6⟩, ⟨0, 5, 7⟩] else if k = 8 then some [⟨0, 5, 6⟩, ⟨(-1), 5, 6⟩] else if k = 9 then some [⟨0, 5, 6⟩, ⟨0, 5, 6⟩] else if k = 10 then some [⟨0, 5, 6⟩, ⟨0, 5, 6⟩] else if k = 11 then some [] else if k = 12 then some [⟨0, 200, 12⟩] else none
/-- What the map holds: the rows of the kinds that are listed. -/
def MapOk (b : Nat → Bool) (w : World) (es : List MapEntry) : Prop :=
  (∀ e ∈ es, ∃ p ∈ insl, b p.1 = true ∧ e.key = .int .i64 p.2.1 ∧ RowV w p.2.2 e.val) ∧ ∀ p ∈ insl, b p.1 = true → ∃ e ∈ es, e.key = .int .i64 p.2.1
/-- What is looked up. -/
def Res (w : World) (x : Int) (v : Value) (ok : Bool) : Prop :=
  (∃ p ∈ insl, p.2.1 = x ∧ ok = true ∧ RowV w p.2.2 v) ∨ ((∀ p ∈ insl, p.2.1 ≠ x) ∧ ok = false ∧ v = .slice none 0 0)
theorem Res.grow {w w' : World} (hg : Grow w w') {x : Int} {v : Value} {ok : Bool} (h : Res w x v ok) : Res w' x v ok := by
  rcases h with ⟨p, hp, e, ho, hr⟩ | h
  · exact .inl ⟨p, hp, e, ho, hr.grow hg⟩
  · exact .inr h
/-- The region's relation: x the kind that is asked, a0 and W the frame and the world where it begins. -/
structure Inv (x : Int) (a0 : Act) (W : World) (b : Nat → Bool) (a : Act) (w : World) : Prop where
  defs : a.defers = a0.defers
  size : a.tmps.size = 68
  low : ∀ t, t < 9 → slot a t = slot a0 t
  bel : Below W.heap.size W w
  vals : ∀ p ∈ tabl, b p.1 = true → Rep w p.2.2 (slot a p.2.1)
  map : b 0 = true → ∃ M es c, slot a 22 = .map (some M) ∧ W.heap.size ≤ M ∧ w.heap[M]? = some (.map es c) ∧ MapOk b w es.toList
  t51 : b 51 = true → slot a 61 = slot a 22
  t52 : b 52 = true → slot a 62 = .int .i64 x
  t53 : b 53 = true → ∃ v ok, slot a 63 = .tuple #[v, .bool ok] ∧ Res w x v ok
  t54 : b 54 = true → slot a 21 = slot a 63
  t55 : b 55 = true → ∃ v ok, slot a 21 = .tuple #[v, .bool ok] ∧ slot a 64 = v
  t56 : b 56 = true → ∃ v ok, slot a 21 = .tuple #[v, .bool ok] ∧ slot a 65 = .bool ok
  t57 : b 57 = true → slot a 9 = slot a 64
  t58 : b 58 = true → slot a 10 = slot a 65
/-- An operation that fills slot t, which is none of the last ones: what is left to be shown of it. -/
def okStep (i t : Nat) : Bool := tabl.all (fun p => p.1 == i || p.2.1 != t) && decide (22 < t) && decide (t < 61) && decide (0 < i) && decide (i < 51) && insl.all (fun p => p.1 != i) && tabl.all (fun p => p.1 != i || p.2.1 == t)
theorem up_of {b : Nat → Bool} {i j : Nat} (h : up b i j = true) (hne : j ≠ i) : b j = true := by rwa [up_ne hne] at h
theorem Inv.value {x : Int} {a0 : Act} {W : World} {b : Nat → Bool} {a : Act} {w w' : World} (h : Inv x a0 W b a w) (i t : Nat) (hok : okStep i t = true) (v : Value) (hb : Below w.heap.size w w')
    (hv : ∀ p ∈ tabl, p.1 = i → Rep w' p.2.2 v) : Inv x a0 W (up b i) (a.put (some t) v) w' := by
  simp only [okStep, Bool.and_eq_true, decide_eq_true_eq, List.all_eq_true] at hok
  obtain ⟨⟨⟨⟨⟨⟨h1, h2⟩, h3⟩, h4⟩, h5⟩, h6⟩, h7⟩ := hok
  have hg := grow_below hb
  have hs : t < a.tmps.size := by rw [h.size]; omega
  have sp : ∀ s, s ≠ t → slot (a.put (some t) v) s = slot a s := fun s hs => slot_put a t s v hs
  refine ⟨h.defs, by rw [put_size, h.size], fun s hs => by rw [sp s (by omega)]; exact h.low s hs, h.bel.trans (hb.mono h.bel.size), fun p hp hbp => ?_, fun hz => ?_, fun hz => ?_, fun hz => ?_, fun hz => ?_, fun hz => ?_, fun hz => ?_, fun hz => ?_, fun hz => ?_, fun hz => ?_⟩
  · by_cases e : p.1 = i
    · have h8 := h7 p hp
      have e2 : p.2.1 = t := by
        have : (p.1 != i) = false := by rw [e]; simp
        rw [this, Bool.false_or] at h8
        simpa using h8
      rw [e2, slot_self a t v hs]
      exact hv p hp e
    · have h8 := h1 p hp
      have e2 : p.2.1 ≠ t := by
        have : (p.1 == i) = false := by simpa using e
        rw [this, Bool.false_or] at h8
        simpa using h8
      rw [sp _ e2]
      exact (h.vals p hp (up_of hbp e)).grow hg
  · obtain ⟨M, es, c, e1, e2, e3, e4⟩ := h.map (up_of hz (by omega))
    refine ⟨M, es, c, by rw [sp _ (by omega)]; exact e1, e2, (hb.block M (blk_lt e3)).trans e3, fun e he => ?_, fun p hp hbp => ?_⟩
    · obtain ⟨p, hp, f1, f2, f3⟩ := e4.1 e he
      have h8 : p.1 ≠ i := by simpa using h6 p hp
      exact ⟨p, hp, by rw [up_ne h8]; exact f1, f2, f3.grow hg⟩
    · have h8 : p.1 ≠ i := by simpa using h6 p hp
      exact e4.2 p hp (up_of hbp h8)
  · rw [sp _ (by omega), sp _ (by omega)]; exact h.t51 (up_of hz (by omega))
  · rw [sp _ (by omega)]; exact h.t52 (up_of hz (by omega))
  · obtain ⟨v1, ok, e1, e2⟩ := h.t53 (up_of hz (by omega))
    exact ⟨v1, ok, by rw [sp _ (by omega)]; exact e1, e2.grow hg⟩
  · rw [sp _ (by omega), sp _ (by omega)]; exact h.t54 (up_of hz (by omega))
  · rw [sp _ (by omega), sp _ (by omega)]; exact h.t55 (up_of hz (by omega))
  · rw [sp _ (by omega), sp _ (by omega)]; exact h.t56 (up_of hz (by omega))
  · rw [sp _ (by omega), sp _ (by omega)]; exact h.t57 (up_of hz (by omega))
  · rw [sp _ (by omega), sp _ (by omega)]; exact h.t58 (up_of hz (by omega))
section
variable {x : Int} {a0 : Act} {W : World} {ops : Array Oper} {Q : Exit → Act → World → Prop} {O : List Nat} {i : Nat} {oi : Oper}
theorem wanted_none {o : Oper} {y : Nat → Option Bool} (h : o.guard = none) : Region.wanted o y = true := by unfold Region.wanted; rw [h]
theorem eval_tmp (a : Act) (t : Nat) : a.eval (.tmp t) = slot a t := rfl
/-- A box that holds what is asked of one number. -/
def BoxOf (a0 : Act) (W : World) (p : Nat) (x : Ask) : Prop := ∃ B f, slot a0 p = .pointer (some ⟨B, 0, none⟩) ∧ W.heap[B]? = some (.cells #[f, .int .i64 x.e] 59 (0, 0)) ∧ Fn W x.lo x.hi f
theorem at_load {t p : Nat} {y : Ask} (hoi : ops[i]? = some oi) (hd : oi.dst = some t) (hg : oi.guard = none) (ho : oi.op = .load 59 (.tmp p)) (hp : p < 9) (hbox : BoxOf a0 W p y) (hok : okStep i t = true) (hv : ∀ q ∈ tabl, q.1 = i → q.2.2 = .ask y) :
    StepAt Try.prog ops Q B3 O (Inv x a0 W) i := by
  intro b a w hI hbi hw hn
  refine ⟨oi, hoi, fun K hK => ?_⟩
  obtain ⟨B, f, e1, e2, f1⟩ := hbox
  have hB : w.heap[B]? = some (.cells #[f, .int .i64 y.e] 59 (0, 0)) := (hI.bel.block B (blk_lt e2)).trans e2
  have c0 : w.cell? ⟨B, 0, none⟩ = some f := (blk_cell hB 0).trans rfl
  have c1 : w.cell? ⟨B, 1, none⟩ = some (.int .i64 y.e) := (blk_cell hB 1).trans rfl
  have es : slot a p = .pointer (some ⟨B, 0, none⟩) := (hI.low p hp).trans e1
  refine value_ (v := .agg #[f, .int .i64 y.e]) (w1 := w) (wanted_none hg) rfl ?_ ?_
  · unfold execOp
    simp only [ho]
    rw [eval_tmp, es]
    go_simp
  · rw [hd]
    exact hK.out _ _ (hI.value i t hok _ (Below.refl _ _) (fun q hq e => by rw [hv q hq e]; exact ⟨f, rfl, f1.grow (grow_below hI.bel)⟩))
end
section
variable {x : Int} {a0 : Act} {W : World} {ops : Array Oper} {Q : Exit → Act → World → Prop} {O : List Nat} {i : Nat} {oi : Oper}
theorem at_call {t : Nat} {lo hi : Int} (hoi : ops[i]? = some oi) (hd : oi.dst = some t) (hg : oi.guard = none) (ho : oi.op = .call { callee := .value (.func 26), args := #[.const (.int .i64 lo), .const (.int .i64 hi)], argTypes := #[3, 3] })
    (hok : okStep i t = true) (hv : ∀ q ∈ tabl, q.1 = i → q.2.2 = .fn lo hi) : StepAt Try.prog ops Q B3 O (Inv x a0 W) i := by
  intro b a w hI hbi hw hn
  refine ⟨oi, hoi, fun K hK => ?_⟩
  refine goes_ (f := 26) Try.func26 (by kernel_rfl) rfl #[.int .i64 lo, .int .i64 hi] (wanted_none hg) rfl ho (by simp [Act.eval]) ?_
  refine (to_c lo hi w).mono ?_
  rintro e w' ⟨rfl, rfl⟩
  refine ⟨_, rfl, ?_⟩
  rw [hd]
  refine hK.out _ _ (hI.value i t hok _ (((Below.refl _ _).alloc (Nat.le_refl _) _).alloc (by simp) _) (fun q hq e => ?_))
  rw [hv q hq e]
  refine ⟨w.heap.size, w.heap.size + 1, rfl, blk_alloc (blk_new w _) _, ?_⟩
  have h := blk_new (w.alloc (.cells #[.int .i64 lo] 3)) (.cells #[.int .i64 hi] 3)
  rw [World.size_alloc] at h
  exact h
theorem eval_const (a : Act) (v : Value) : a.eval (.const v) = v := rfl
theorem build_run (b1 b2 : Nat) (e : Int) (w : World) : (Instr.build 59 #[(0, .func (.func 27) #[] #[.pointer (some ⟨b1, 0, none⟩), .pointer (some ⟨b2, 0, none⟩)]), (1, .int .i64 e)]).run Try.prog w =
    .ok (.agg #[.func (.func 27) #[] #[.pointer (some ⟨b1, 0, none⟩), .pointer (some ⟨b2, 0, none⟩)], .int .i64 e]) w := by kernel_rfl
theorem at_build {t s is : Nat} {lo hi e : Int} (hoi : ops[i]? = some oi) (hd : oi.dst = some t) (hg : oi.guard = none) (ho : oi.op = .build 59 #[(0, .tmp s), (1, .const (.int .i64 e))])
    (hs : (is, s, A.fn lo hi) ∈ tabl) (hws : (O.contains is && (B3.getD i 0).testBit is) = true) (hok : okStep i t = true) (hv : ∀ q ∈ tabl, q.1 = i → q.2.2 = .ask ⟨lo, hi, e⟩) : StepAt Try.prog ops Q B3 O (Inv x a0 W) i := by
  intro b a w hI hbi hw hn
  refine ⟨oi, hoi, fun K hK => ?_⟩
  have hf : Fn w lo hi (slot a s) := hI.vals _ hs (hw is hws)
  obtain ⟨b1, b2, e1, f1, f2⟩ := hf
  refine value_ (v := .agg #[.func (.func 27) #[] #[.pointer (some ⟨b1, 0, none⟩), .pointer (some ⟨b2, 0, none⟩)], .int .i64 e]) (w1 := w) (wanted_none hg) rfl ?_ ?_
  · unfold execOp
    simp only [ho]
    simp only [Sem.run_bind, List.map_toArray, List.map_cons, List.map_nil, eval_tmp, eval_const]
    rw [e1, build_run]
    rfl
  · rw [hd]
    exact hK.out _ _ (hI.value i t hok _ (Below.refl _ _) (fun q hq e => by rw [hv q hq e]; exact ⟨_, rfl, b1, b2, rfl, f1, f2⟩))
theorem slice_row (w : World) (l : List Ask) (cs : Array Value) (h : ∀ j x, l[j]? = some x → ∃ f, cs[j * 2]? = some f ∧ cs[j * 2 + 1]? = some (.int .i64 x.e) ∧ Fn w x.lo x.hi f) :
    RowV (w.alloc (.cells cs 59)) l (.slice (some ⟨w.heap.size, 0, none⟩) l.length l.length) := by
  refine ⟨w.heap.size, cs, rfl, blk_new w _, fun j x hj => ?_⟩
  obtain ⟨f, e1, e2, e3⟩ := h j x hj
  exact ⟨f, e1, e2, e3.grow (grow_below ((Below.refl _ _).alloc (Nat.le_refl _) _))⟩
/-- A function value is one cell. -/
def fv (b1 b2 : Nat) : Value := .func (.func 27) #[] #[.pointer (some ⟨b1, 0, none⟩), .pointer (some ⟨b2, 0, none⟩)]
theorem slice_run0 (w : World) : (Instr.buildSlice 49 0 #[]).run Try.prog w = .ok (.slice (some ⟨w.heap.size, 0, none⟩) 0 0) (w.alloc (.cells #[] 59)) := by kernel_rfl
theorem slice_run1 (w : World) (p0 q0 : Nat) (e0 : Int) : (Instr.buildSlice 49 1 #[(0, .agg #[fv p0 q0, .int .i64 e0])]).run Try.prog w = .ok (.slice (some ⟨w.heap.size, 0, none⟩) 1 1) (w.alloc (.cells #[fv p0 q0, .int .i64 e0] 59)) := by kernel_rfl
theorem slice_run2 (w : World) (p0 q0 p1 q1 : Nat) (e0 e1 : Int) : (Instr.buildSlice 49 2 #[(0, .agg #[fv p0 q0, .int .i64 e0]), (1, .agg #[fv p1 q1, .int .i64 e1])]).run Try.prog w =
    .ok (.slice (some ⟨w.heap.size, 0, none⟩) 2 2) (w.alloc (.cells #[fv p0 q0, .int .i64 e0, fv p1 q1, .int .i64 e1] 59)) := by kernel_rfl
theorem slice_run3 (w : World) (p0 q0 p1 q1 p2 q2 : Nat) (e0 e1 e2 : Int) : (Instr.buildSlice 49 3 #[(0, .agg #[fv p0 q0, .int .i64 e0]), (1, .agg #[fv p1 q1, .int .i64 e1]), (2, .agg #[fv p2 q2, .int .i64 e2])]).run Try.prog w =
    .ok (.slice (some ⟨w.heap.size, 0, none⟩) 3 3) (w.alloc (.cells #[fv p0 q0, .int .i64 e0, fv p1 q1, .int .i64 e1, fv p2 q2, .int .i64 e2] 59)) := by kernel_rfl
theorem at_slice0 {t : Nat} (hoi : ops[i]? = some oi) (hd : oi.dst = some t) (hg : oi.guard = none) (ho : oi.op = .buildSlice 49 0 #[]) (hok : okStep i t = true) (hv : ∀ q ∈ tabl, q.1 = i → q.2.2 = .row []) :
    StepAt Try.prog ops Q B3 O (Inv x a0 W) i := by
  intro b a w hI hbi hw hn
  refine ⟨oi, hoi, fun K hK => ?_⟩
  refine value_ (v := .slice (some ⟨w.heap.size, 0, none⟩) 0 0) (w1 := w.alloc (.cells #[] 59)) (wanted_none hg) rfl ?_ ?_
  · unfold execOp
    simp only [ho]
    simp only [Sem.run_bind, List.map_toArray, List.map_nil]
    rw [slice_run0]
    rfl
  · rw [hd]
    refine hK.out _ _ (hI.value i t hok _ ((Below.refl _ _).alloc (Nat.le_refl _) _) (fun q hq e => ?_))
    rw [hv q hq e]
    exact slice_row w [] #[] (fun j x hj => by simp at hj)
theorem at_slice1 {t t0 i0 : Nat} {x0 : Ask} (hoi : ops[i]? = some oi) (hd : oi.dst = some t) (hg : oi.guard = none) (ho : oi.op = .buildSlice 49 1 #[(0, .tmp t0)])
    (h0 : (i0, t0, A.ask x0) ∈ tabl) (w0 : (O.contains i0 && (B3.getD i 0).testBit i0) = true) (hok : okStep i t = true) (hv : ∀ q ∈ tabl, q.1 = i → q.2.2 = .row [x0]) : StepAt Try.prog ops Q B3 O (Inv x a0 W) i := by
  intro b a w hI hbi hw hn
  refine ⟨oi, hoi, fun K hK => ?_⟩
  obtain ⟨_, s0, p0, q0, rfl, f0, g0⟩ := (show ∃ f, slot a t0 = .agg #[f, .int .i64 x0.e] ∧ Fn w x0.lo x0.hi f from hI.vals _ h0 (hw i0 w0))
  refine value_ (v := .slice (some ⟨w.heap.size, 0, none⟩) 1 1) (w1 := w.alloc (.cells #[fv p0 q0, .int .i64 x0.e] 59)) (wanted_none hg) rfl ?_ ?_
  · unfold execOp
    simp only [ho]
    simp only [Sem.run_bind, List.map_toArray, List.map_cons, List.map_nil, eval_tmp]
    rw [s0]
    exact (congrArg (fun r => Result.andThen r _) (slice_run1 w p0 q0 x0.e)).trans rfl
  · rw [hd]
    refine hK.out _ _ (hI.value i t hok _ ((Below.refl _ _).alloc (Nat.le_refl _) _) (fun q hq e => ?_))
    rw [hv q hq e]
    refine slice_row w [x0] _ (fun j y hj => ?_)
    have hj1 : j < 1 := (List.getElem?_eq_some_iff.1 hj).1
    obtain rfl : j = 0 := by omega
    injection hj with hj; subst hj
    exact ⟨_, rfl, rfl, p0, q0, rfl, f0, g0⟩
theorem at_slice2 {t t0 i0 t1 i1 : Nat} {x0 x1 : Ask} (hoi : ops[i]? = some oi) (hd : oi.dst = some t) (hg : oi.guard = none) (ho : oi.op = .buildSlice 49 2 #[(0, .tmp t0), (1, .tmp t1)])
    (h0 : (i0, t0, A.ask x0) ∈ tabl) (w0 : (O.contains i0 && (B3.getD i 0).testBit i0) = true) (h1 : (i1, t1, A.ask x1) ∈ tabl) (w1 : (O.contains i1 && (B3.getD i 0).testBit i1) = true)
    (hok : okStep i t = true) (hv : ∀ q ∈ tabl, q.1 = i → q.2.2 = .row [x0, x1]) : StepAt Try.prog ops Q B3 O (Inv x a0 W) i := by
  intro b a w hI hbi hw hn
  refine ⟨oi, hoi, fun K hK => ?_⟩
  obtain ⟨_, s0, p0, q0, rfl, f0, g0⟩ := (show ∃ f, slot a t0 = .agg #[f, .int .i64 x0.e] ∧ Fn w x0.lo x0.hi f from hI.vals _ h0 (hw i0 w0))
  obtain ⟨_, s1, p1, q1, rfl, f1, g1⟩ := (show ∃ f, slot a t1 = .agg #[f, .int .i64 x1.e] ∧ Fn w x1.lo x1.hi f from hI.vals _ h1 (hw i1 w1))
  refine value_ (v := .slice (some ⟨w.heap.size, 0, none⟩) 2 2) (w1 := w.alloc (.cells #[fv p0 q0, .int .i64 x0.e, fv p1 q1, .int .i64 x1.e] 59)) (wanted_none hg) rfl ?_ ?_
  · unfold execOp
    simp only [ho]
    simp only [Sem.run_bind, List.map_toArray, List.map_cons, List.map_nil, eval_tmp]
    rw [s0, s1]
    exact (congrArg (fun r => Result.andThen r _) (slice_run2 w p0 q0 p1 q1 x0.e x1.e)).trans rfl
  · rw [hd]
    refine hK.out _ _ (hI.value i t hok _ ((Below.refl _ _).alloc (Nat.le_refl _) _) (fun q hq e => ?_))
    rw [hv q hq e]
    refine slice_row w [x0, x1] _ (fun j y hj => ?_)
    have hj1 : j < 2 := (List.getElem?_eq_some_iff.1 hj).1
    obtain rfl | rfl : j = 0 ∨ j = 1 := by omega
    · injection hj with hj; subst hj; exact ⟨_, rfl, rfl, p0, q0, rfl, f0, g0⟩
    · injection hj with hj; subst hj; exact ⟨_, rfl, rfl, p1, q1, rfl, f1, g1⟩
theorem at_slice3 {t t0 i0 t1 i1 t2 i2 : Nat} {x0 x1 x2 : Ask} (hoi : ops[i]? = some oi) (hd : oi.dst = some t) (hg : oi.guard = none) (ho : oi.op = .buildSlice 49 3 #[(0, .tmp t0), (1, .tmp t1), (2, .tmp t2)])
    (h0 : (i0, t0, A.ask x0) ∈ tabl) (w0 : (O.contains i0 && (B3.getD i 0).testBit i0) = true) (h1 : (i1, t1, A.ask x1) ∈ tabl) (w1 : (O.contains i1 && (B3.getD i 0).testBit i1) = true)
    (h2 : (i2, t2, A.ask x2) ∈ tabl) (w2 : (O.contains i2 && (B3.getD i 0).testBit i2) = true) (hok : okStep i t = true) (hv : ∀ q ∈ tabl, q.1 = i → q.2.2 = .row [x0, x1, x2]) : StepAt Try.prog ops Q B3 O (Inv x a0 W) i := by
  intro b a w hI hbi hw hn
  refine ⟨oi, hoi, fun K hK => ?_⟩
  obtain ⟨_, s0, p0, q0, rfl, f0, g0⟩ := (show ∃ f, slot a t0 = .agg #[f, .int .i64 x0.e] ∧ Fn w x0.lo x0.hi f from hI.vals _ h0 (hw i0 w0))
  obtain ⟨_, s1, p1, q1, rfl, f1, g1⟩ := (show ∃ f, slot a t1 = .agg #[f, .int .i64 x1.e] ∧ Fn w x1.lo x1.hi f from hI.vals _ h1 (hw i1 w1))
  obtain ⟨_, s2, p2, q2, rfl, f2, g2⟩ := (show ∃ f, slot a t2 = .agg #[f, .int .i64 x2.e] ∧ Fn w x2.lo x2.hi f from hI.vals _ h2 (hw i2 w2))
  refine value_ (v := .slice (some ⟨w.heap.size, 0, none⟩) 3 3) (w1 := w.alloc (.cells #[fv p0 q0, .int .i64 x0.e, fv p1 q1, .int .i64 x1.e, fv p2 q2, .int .i64 x2.e] 59)) (wanted_none hg) rfl ?_ ?_
  · unfold execOp
    simp only [ho]
    simp only [Sem.run_bind, List.map_toArray, List.map_cons, List.map_nil, eval_tmp]
    rw [s0, s1, s2]
    exact (congrArg (fun r => Result.andThen r _) (slice_run3 w p0 q0 p1 q1 p2 q2 x0.e x1.e x2.e)).trans rfl
  · rw [hd]
    refine hK.out _ _ (hI.value i t hok _ ((Below.refl _ _).alloc (Nat.le_refl _) _) (fun q hq e => ?_))
    rw [hv q hq e]
    refine slice_row w [x0, x1, x2] _ (fun j y hj => ?_)
    have hj1 : j < 3 := (List.getElem?_eq_some_iff.1 hj).1
    obtain rfl | rfl | rfl : j = 0 ∨ j = 1 ∨ j = 2 := by omega
    · injection hj with hj; subst hj; exact ⟨_, rfl, rfl, p0, q0, rfl, f0, g0⟩
    · injection hj with hj; subst hj; exact ⟨_, rfl, rfl, p1, q1, rfl, f1, g1⟩
    · injection hj with hj; subst hj; exact ⟨_, rfl, rfl, p2, q2, rfl, f2, g2⟩
end
theorem tabl_lt : ∀ p ∈ tabl, 22 < p.2.1 ∧ p.2.1 < 61 ∧ 0 < p.1 ∧ p.1 < 51 := by decide
theorem insl_lt : ∀ p ∈ insl, 0 < p.1 ∧ p.1 < 51 := by decide
section
variable {x : Int} {a0 : Act} {W : World} {ops : Array Oper} {Q : Exit → Act → World → Prop} {O : List Nat} {i : Nat} {oi : Oper}
theorem MapOk.up {b : Nat → Bool} {w : World} {es : List MapEntry} (h : MapOk b w es) (i : Nat) (hi : ∀ p ∈ insl, p.1 ≠ i) : MapOk (up b i) w es := by
  refine ⟨fun e he => ?_, fun p hp hbp => h.2 p hp (up_of hbp (hi p hp))⟩
  obtain ⟨p, hp, f1, f2⟩ := h.1 e he
  exact ⟨p, hp, by rw [up_ne (hi p hp)]; exact f1, f2⟩
theorem lookup_run {b : Nat → Bool} {w : World} {M c : Nat} {es : Array MapEntry} (e3 : w.heap[M]? = some (.map es c)) (e4 : MapOk b w es.toList) (hall : ∀ p ∈ insl, b p.1 = true) (x : Int) :
    ∃ v ok, (Instr.lookup 60 (.map (some M)) (.int .i64 x) true).run Try.prog w = .ok (.tuple #[v, .bool ok]) w ∧ Res w x v ok := by
  have hks : ∀ e ∈ es.toList, MapKept.IsKey (.int .i64) e.key := fun e he => by
    obtain ⟨p, _, _, f2, _⟩ := e4.1 e he
    rw [f2]; rfl
  have hz : ∀ w : World, (zeroValue 49).run Try.prog w = .ok (.slice none 0 0) w := fun w => by kernel_rfl
  rcases MapKept.findNow_spec (d := .int .i64) (k := .int .i64 x) rfl es.toList 0 hks with ⟨h1, h2⟩ | ⟨j, e, h1, h2, h3⟩
  · refine ⟨.slice none 0 0, false, ?_, .inr ⟨fun p hp hx => ?_, rfl, rfl⟩⟩
    · simp [Instr.lookup, run_underlying Try.underlying60, MapKept.run_getObj_map e3, MapKept.run_checkKey Try.underlying3 (show MapKept.IsKey (.int .i64) (.int .i64 x) from rfl), MapKept.run_findKey Try.underlying3 h1, hz, Result.andThen]
    · obtain ⟨e, he, f⟩ := e4.2 p hp (hall p hp)
      exact h2 e he (by rw [f, hx])
  · have he := List.mem_of_getElem? h2
    obtain ⟨p, hp, f1, f2, f3⟩ := e4.1 e he
    refine ⟨e.val, true, ?_, .inl ⟨p, hp, ?_, rfl, f3⟩⟩
    · simp [Instr.lookup, run_underlying Try.underlying60, MapKept.run_getObj_map e3, MapKept.run_checkKey Try.underlying3 (show MapKept.IsKey (.int .i64) (.int .i64 x) from rfl), MapKept.run_findKey Try.underlying3 h1, Result.andThen]
    · rw [f2] at h3
      injection h3
theorem make_run (w : World) : (Instr.makeMap 60 none).run Try.prog w = .ok (.map (some w.heap.size)) (w.alloc (.map #[] 0)) := by kernel_rfl

theorem at_make (hoi : ops[i]? = some oi) (hi : i = 0) (hd : oi.dst = some 22) (hg : oi.guard = none) (ho : oi.op = .makeMap 60 none) (hO51 : (O.contains 51 && (B3.getD 51 0).testBit i) = true) (hins : ∀ p ∈ insl, (O.contains p.1 && (B3.getD p.1 0).testBit i) = true) : StepAt Try.prog ops Q B3 O (Inv x a0 W) i := by
  subst hi
  intro b a w hI hbi hw hn
  refine ⟨oi, hoi, fun K hK => ?_⟩
  have hs : 22 < a.tmps.size := by rw [hI.size]; decide
  refine value_ (v := .map (some w.heap.size)) (w1 := w.alloc (.map #[] 0)) (wanted_none hg) rfl ?_ ?_
  · unfold execOp
    simp only [ho]
    simp only [Sem.run_bind, Option.map_none]
    rw [make_run]
    rfl
  · rw [hd]
    have sp : ∀ s, s ≠ 22 → slot (a.put (some 22) (.map (some w.heap.size))) s = slot a s := fun s hs => slot_put a 22 s _ hs
    have sl : slot (a.put (some 22) (.map (some w.heap.size))) 22 = .map (some w.heap.size) := slot_self a 22 _ hs
    have hgr : Grow w (w.alloc (.map #[] 0)) := grow_below ((Below.refl _ _).alloc (Nat.le_refl _) _)
    refine hK.out _ _ ⟨hI.defs, by rw [put_size, hI.size], fun s hs => by rw [sp s (by omega)]; exact hI.low s hs, hI.bel.alloc hI.bel.size _, fun p hp hbp => ?_, fun hz => ?_, fun hz => ?_, fun hz => ?_, fun hz => ?_, fun hz => ?_, fun hz => ?_, fun hz => ?_, fun hz => ?_, fun hz => ?_⟩
    · have h9 := tabl_lt p hp
      rw [sp _ (by omega)]
      exact (hI.vals p hp (up_of hbp (by omega))).grow hgr
    · exact ⟨w.heap.size, #[], 0, sl, hI.bel.size, blk_new w _, fun e he => by simp at he, fun p hp hbp => absurd (up_of hbp (by have := insl_lt p hp; omega)) (by rw [hn p.1 (hins p hp)]; decide)⟩
    · exact absurd (up_of hz (by omega)) (by rw [hn 51 hO51]; decide)
    · rw [sp _ (by omega)]; exact hI.t52 (up_of hz (by omega))
    · obtain ⟨v1, ok, e1, e2⟩ := hI.t53 (up_of hz (by omega)); exact ⟨v1, ok, by rw [sp _ (by omega)]; exact e1, e2.grow hgr⟩
    · rw [sp _ (by omega), sp _ (by omega)]; exact hI.t54 (up_of hz (by omega))
    · rw [sp _ (by omega), sp _ (by omega)]; exact hI.t55 (up_of hz (by omega))
    · rw [sp _ (by omega), sp _ (by omega)]; exact hI.t56 (up_of hz (by omega))
    · rw [sp _ (by omega), sp _ (by omega)]; exact hI.t57 (up_of hz (by omega))
    · rw [sp _ (by omega), sp _ (by omega)]; exact hI.t58 (up_of hz (by omega))

theorem at_51 (hoi : ops[i]? = some oi) (hi : i = 51) (hd : oi.dst = some 61) (hg : oi.guard = none) (ho : oi.op = .move (.tmp 22))  : StepAt Try.prog ops Q B3 O (Inv x a0 W) i := by
  subst hi
  intro b a w hI hbi hw hn
  refine ⟨oi, hoi, fun K hK => ?_⟩
  have hs : 61 < a.tmps.size := by rw [hI.size]; decide
  refine value_ (v := slot a 22) (w1 := w) (wanted_none hg) rfl ?_ ?_
  · unfold execOp
    simp only [ho]
    rfl
  · rw [hd]
    have sp : ∀ s, s ≠ 61 → slot (a.put (some 61) (slot a 22)) s = slot a s := fun s hs => slot_put a 61 s _ hs
    have sl : slot (a.put (some 61) (slot a 22)) 61 = slot a 22 := slot_self a 61 _ hs
    have hgr : Grow w (w) := fun _ _ _ _ h => h
    refine hK.out _ _ ⟨hI.defs, by rw [put_size, hI.size], fun s hs => by rw [sp s (by omega)]; exact hI.low s hs, hI.bel, fun p hp hbp => ?_, fun hz => ?_, fun hz => ?_, fun hz => ?_, fun hz => ?_, fun hz => ?_, fun hz => ?_, fun hz => ?_, fun hz => ?_, fun hz => ?_⟩
    · have h9 := tabl_lt p hp
      rw [sp _ (by omega)]
      exact (hI.vals p hp (up_of hbp (by omega))).grow hgr
    · obtain ⟨M, es, c, e1, e2, e3, e4⟩ := hI.map (up_of hz (by omega))
      exact ⟨M, es, c, by rw [sp _ (by omega)]; exact e1, e2, e3, e4.up 51 (fun p hp => by have := insl_lt p hp; omega)⟩
    · rw [sl, sp _ (by omega)]
    · rw [sp _ (by omega)]; exact hI.t52 (up_of hz (by omega))
    · obtain ⟨v1, ok, e1, e2⟩ := hI.t53 (up_of hz (by omega)); exact ⟨v1, ok, by rw [sp _ (by omega)]; exact e1, e2.grow hgr⟩
    · rw [sp _ (by omega), sp _ (by omega)]; exact hI.t54 (up_of hz (by omega))
    · rw [sp _ (by omega), sp _ (by omega)]; exact hI.t55 (up_of hz (by omega))
    · rw [sp _ (by omega), sp _ (by omega)]; exact hI.t56 (up_of hz (by omega))
    · rw [sp _ (by omega), sp _ (by omega)]; exact hI.t57 (up_of hz (by omega))
    · rw [sp _ (by omega), sp _ (by omega)]; exact hI.t58 (up_of hz (by omega))

theorem at_52 (hoi : ops[i]? = some oi) (hi : i = 52) (hd : oi.dst = some 62) (hg : oi.guard = none) (ho : oi.op = .move (.tmp 0)) (hx : slot a0 0 = .int .i64 x) : StepAt Try.prog ops Q B3 O (Inv x a0 W) i := by
  subst hi
  intro b a w hI hbi hw hn
  refine ⟨oi, hoi, fun K hK => ?_⟩
  have hs : 62 < a.tmps.size := by rw [hI.size]; decide
  refine value_ (v := slot a 0) (w1 := w) (wanted_none hg) rfl ?_ ?_
  · unfold execOp
    simp only [ho]
    rfl
  · rw [hd]
    have sp : ∀ s, s ≠ 62 → slot (a.put (some 62) (slot a 0)) s = slot a s := fun s hs => slot_put a 62 s _ hs
    have sl : slot (a.put (some 62) (slot a 0)) 62 = slot a 0 := slot_self a 62 _ hs
    have hgr : Grow w (w) := fun _ _ _ _ h => h
    refine hK.out _ _ ⟨hI.defs, by rw [put_size, hI.size], fun s hs => by rw [sp s (by omega)]; exact hI.low s hs, hI.bel, fun p hp hbp => ?_, fun hz => ?_, fun hz => ?_, fun hz => ?_, fun hz => ?_, fun hz => ?_, fun hz => ?_, fun hz => ?_, fun hz => ?_, fun hz => ?_⟩
    · have h9 := tabl_lt p hp
      rw [sp _ (by omega)]
      exact (hI.vals p hp (up_of hbp (by omega))).grow hgr
    · obtain ⟨M, es, c, e1, e2, e3, e4⟩ := hI.map (up_of hz (by omega))
      exact ⟨M, es, c, by rw [sp _ (by omega)]; exact e1, e2, e3, e4.up 52 (fun p hp => by have := insl_lt p hp; omega)⟩
    · rw [sp _ (by omega), sp _ (by omega)]; exact hI.t51 (up_of hz (by omega))
    · rw [sl, hI.low 0 (by omega), hx]
    · obtain ⟨v1, ok, e1, e2⟩ := hI.t53 (up_of hz (by omega)); exact ⟨v1, ok, by rw [sp _ (by omega)]; exact e1, e2.grow hgr⟩
    · rw [sp _ (by omega), sp _ (by omega)]; exact hI.t54 (up_of hz (by omega))
    · rw [sp _ (by omega), sp _ (by omega)]; exact hI.t55 (up_of hz (by omega))
    · rw [sp _ (by omega), sp _ (by omega)]; exact hI.t56 (up_of hz (by omega))
    · rw [sp _ (by omega), sp _ (by omega)]; exact hI.t57 (up_of hz (by omega))
    · rw [sp _ (by omega), sp _ (by omega)]; exact hI.t58 (up_of hz (by omega))

theorem at_53 (hoi : ops[i]? = some oi) (hi : i = 53) (hd : oi.dst = some 63) (hg : oi.guard = none) (ho : oi.op = .lookup 60 (.tmp 61) (.tmp 62) true) (hw0 : (O.contains 0 && (B3.getD i 0).testBit 0) = true) (hw51 : (O.contains 51 && (B3.getD i 0).testBit 51) = true) (hw52 : (O.contains 52 && (B3.getD i 0).testBit 52) = true) (hO54 : (O.contains 54 && (B3.getD 54 0).testBit i) = true) (hins : ∀ p ∈ insl, (O.contains p.1 && (B3.getD i 0).testBit p.1) = true) : StepAt Try.prog ops Q B3 O (Inv x a0 W) i := by
  subst hi
  intro b a w hI hbi hw hn
  refine ⟨oi, hoi, fun K hK => ?_⟩
  have hs : 63 < a.tmps.size := by rw [hI.size]; decide
  obtain ⟨M, es, c, e1, e2, e3, e4⟩ := hI.map (hw 0 hw0)
  have e5 := (hI.t51 (hw 51 hw51)).trans e1
  have e6 := hI.t52 (hw 52 hw52)
  obtain ⟨v, ok, hr, hres⟩ := lookup_run e3 e4 (fun p hp => hw p.1 (hins p hp)) x
  refine value_ (v := .tuple #[v, .bool ok]) (w1 := w) (wanted_none hg) rfl ?_ ?_
  · unfold execOp
    simp only [ho]
    simp only [Sem.run_bind, eval_tmp]
    rw [e5, e6, hr]
    rfl
  · rw [hd]
    have sp : ∀ s, s ≠ 63 → slot (a.put (some 63) (.tuple #[v, .bool ok])) s = slot a s := fun s hs => slot_put a 63 s _ hs
    have sl : slot (a.put (some 63) (.tuple #[v, .bool ok])) 63 = .tuple #[v, .bool ok] := slot_self a 63 _ hs
    have hgr : Grow w (w) := fun _ _ _ _ h => h
    refine hK.out _ _ ⟨hI.defs, by rw [put_size, hI.size], fun s hs => by rw [sp s (by omega)]; exact hI.low s hs, hI.bel, fun p hp hbp => ?_, fun hz => ?_, fun hz => ?_, fun hz => ?_, fun hz => ?_, fun hz => ?_, fun hz => ?_, fun hz => ?_, fun hz => ?_, fun hz => ?_⟩
    · have h9 := tabl_lt p hp
      rw [sp _ (by omega)]
      exact (hI.vals p hp (up_of hbp (by omega))).grow hgr
    · obtain ⟨M, es, c, e1, e2, e3, e4⟩ := hI.map (up_of hz (by omega))
      exact ⟨M, es, c, by rw [sp _ (by omega)]; exact e1, e2, e3, e4.up 53 (fun p hp => by have := insl_lt p hp; omega)⟩
    · rw [sp _ (by omega), sp _ (by omega)]; exact hI.t51 (up_of hz (by omega))
    · rw [sp _ (by omega)]; exact hI.t52 (up_of hz (by omega))
    · exact ⟨v, ok, sl, hres⟩
    · exact absurd (up_of hz (by omega)) (by rw [hn 54 hO54]; decide)
    · rw [sp _ (by omega), sp _ (by omega)]; exact hI.t55 (up_of hz (by omega))
    · rw [sp _ (by omega), sp _ (by omega)]; exact hI.t56 (up_of hz (by omega))
    · rw [sp _ (by omega), sp _ (by omega)]; exact hI.t57 (up_of hz (by omega))
    · rw [sp _ (by omega), sp _ (by omega)]; exact hI.t58 (up_of hz (by omega))

theorem at_54 (hoi : ops[i]? = some oi) (hi : i = 54) (hd : oi.dst = some 21) (hg : oi.guard = none) (ho : oi.op = .move (.tmp 63)) (hO55 : (O.contains 55 && (B3.getD 55 0).testBit i) = true) (hO56 : (O.contains 56 && (B3.getD 56 0).testBit i) = true) : StepAt Try.prog ops Q B3 O (Inv x a0 W) i := by
  subst hi
  intro b a w hI hbi hw hn
  refine ⟨oi, hoi, fun K hK => ?_⟩
  have hs : 21 < a.tmps.size := by rw [hI.size]; decide
  refine value_ (v := slot a 63) (w1 := w) (wanted_none hg) rfl ?_ ?_
  · unfold execOp
    simp only [ho]
    rfl
  · rw [hd]
    have sp : ∀ s, s ≠ 21 → slot (a.put (some 21) (slot a 63)) s = slot a s := fun s hs => slot_put a 21 s _ hs
    have sl : slot (a.put (some 21) (slot a 63)) 21 = slot a 63 := slot_self a 21 _ hs
    have hgr : Grow w (w) := fun _ _ _ _ h => h
    refine hK.out _ _ ⟨hI.defs, by rw [put_size, hI.size], fun s hs => by rw [sp s (by omega)]; exact hI.low s hs, hI.bel, fun p hp hbp => ?_, fun hz => ?_, fun hz => ?_, fun hz => ?_, fun hz => ?_, fun hz => ?_, fun hz => ?_, fun hz => ?_, fun hz => ?_, fun hz => ?_⟩
    · have h9 := tabl_lt p hp
      rw [sp _ (by omega)]
      exact (hI.vals p hp (up_of hbp (by omega))).grow hgr
    · obtain ⟨M, es, c, e1, e2, e3, e4⟩ := hI.map (up_of hz (by omega))
      exact ⟨M, es, c, by rw [sp _ (by omega)]; exact e1, e2, e3, e4.up 54 (fun p hp => by have := insl_lt p hp; omega)⟩
    · rw [sp _ (by omega), sp _ (by omega)]; exact hI.t51 (up_of hz (by omega))
    · rw [sp _ (by omega)]; exact hI.t52 (up_of hz (by omega))
    · obtain ⟨v1, ok, e1, e2⟩ := hI.t53 (up_of hz (by omega)); exact ⟨v1, ok, by rw [sp _ (by omega)]; exact e1, e2.grow hgr⟩
    · rw [sl, sp _ (by omega)]
    · exact absurd (up_of hz (by omega)) (by rw [hn 55 hO55]; decide)
    · exact absurd (up_of hz (by omega)) (by rw [hn 56 hO56]; decide)
    · rw [sp _ (by omega), sp _ (by omega)]; exact hI.t57 (up_of hz (by omega))
    · rw [sp _ (by omega), sp _ (by omega)]; exact hI.t58 (up_of hz (by omega))

theorem at_55 (hoi : ops[i]? = some oi) (hi : i = 55) (hd : oi.dst = some 64) (hg : oi.guard = none) (ho : oi.op = .extract (.tmp 21) 0) (hw54 : (O.contains 54 && (B3.getD i 0).testBit 54) = true) (hw53 : (O.contains 53 && (B3.getD i 0).testBit 53) = true) (hO57 : (O.contains 57 && (B3.getD 57 0).testBit i) = true) : StepAt Try.prog ops Q B3 O (Inv x a0 W) i := by
  subst hi
  intro b a w hI hbi hw hn
  refine ⟨oi, hoi, fun K hK => ?_⟩
  have hs : 64 < a.tmps.size := by rw [hI.size]; decide
  obtain ⟨v, ok, e1, e2⟩ := hI.t53 (hw 53 hw53)
  have e3 := (hI.t54 (hw 54 hw54)).trans e1
  refine value_ (v := v) (w1 := w) (wanted_none hg) rfl ?_ ?_
  · unfold execOp
    simp only [ho]
    simp only [Sem.run_bind, eval_tmp]
    rw [e3]
    rfl
  · rw [hd]
    have sp : ∀ s, s ≠ 64 → slot (a.put (some 64) (v)) s = slot a s := fun s hs => slot_put a 64 s _ hs
    have sl : slot (a.put (some 64) (v)) 64 = v := slot_self a 64 _ hs
    have hgr : Grow w (w) := fun _ _ _ _ h => h
    refine hK.out _ _ ⟨hI.defs, by rw [put_size, hI.size], fun s hs => by rw [sp s (by omega)]; exact hI.low s hs, hI.bel, fun p hp hbp => ?_, fun hz => ?_, fun hz => ?_, fun hz => ?_, fun hz => ?_, fun hz => ?_, fun hz => ?_, fun hz => ?_, fun hz => ?_, fun hz => ?_⟩
    · have h9 := tabl_lt p hp
      rw [sp _ (by omega)]
      exact (hI.vals p hp (up_of hbp (by omega))).grow hgr
    · obtain ⟨M, es, c, e1, e2, e3, e4⟩ := hI.map (up_of hz (by omega))
      exact ⟨M, es, c, by rw [sp _ (by omega)]; exact e1, e2, e3, e4.up 55 (fun p hp => by have := insl_lt p hp; omega)⟩
    · rw [sp _ (by omega), sp _ (by omega)]; exact hI.t51 (up_of hz (by omega))
    · rw [sp _ (by omega)]; exact hI.t52 (up_of hz (by omega))
    · obtain ⟨v1, ok, e1, e2⟩ := hI.t53 (up_of hz (by omega)); exact ⟨v1, ok, by rw [sp _ (by omega)]; exact e1, e2.grow hgr⟩
    · rw [sp _ (by omega), sp _ (by omega)]; exact hI.t54 (up_of hz (by omega))
    · exact ⟨v, ok, by rw [sp _ (by omega)]; exact e3, sl⟩
    · rw [sp _ (by omega), sp _ (by omega)]; exact hI.t56 (up_of hz (by omega))
    · exact absurd (up_of hz (by omega)) (by rw [hn 57 hO57]; decide)
    · rw [sp _ (by omega), sp _ (by omega)]; exact hI.t58 (up_of hz (by omega))

theorem at_56 (hoi : ops[i]? = some oi) (hi : i = 56) (hd : oi.dst = some 65) (hg : oi.guard = none) (ho : oi.op = .extract (.tmp 21) 1) (hw54 : (O.contains 54 && (B3.getD i 0).testBit 54) = true) (hw53 : (O.contains 53 && (B3.getD i 0).testBit 53) = true) (hO58 : (O.contains 58 && (B3.getD 58 0).testBit i) = true) : StepAt Try.prog ops Q B3 O (Inv x a0 W) i := by
  subst hi
  intro b a w hI hbi hw hn
  refine ⟨oi, hoi, fun K hK => ?_⟩
  have hs : 65 < a.tmps.size := by rw [hI.size]; decide
  obtain ⟨v, ok, e1, e2⟩ := hI.t53 (hw 53 hw53)
  have e3 := (hI.t54 (hw 54 hw54)).trans e1
  refine value_ (v := .bool ok) (w1 := w) (wanted_none hg) rfl ?_ ?_
  · unfold execOp
    simp only [ho]
    simp only [Sem.run_bind, eval_tmp]
    rw [e3]
    rfl
  · rw [hd]
    have sp : ∀ s, s ≠ 65 → slot (a.put (some 65) (.bool ok)) s = slot a s := fun s hs => slot_put a 65 s _ hs
    have sl : slot (a.put (some 65) (.bool ok)) 65 = .bool ok := slot_self a 65 _ hs
    have hgr : Grow w (w) := fun _ _ _ _ h => h
    refine hK.out _ _ ⟨hI.defs, by rw [put_size, hI.size], fun s hs => by rw [sp s (by omega)]; exact hI.low s hs, hI.bel, fun p hp hbp => ?_, fun hz => ?_, fun hz => ?_, fun hz => ?_, fun hz => ?_, fun hz => ?_, fun hz => ?_, fun hz => ?_, fun hz => ?_, fun hz => ?_⟩
    · have h9 := tabl_lt p hp
      rw [sp _ (by omega)]
      exact (hI.vals p hp (up_of hbp (by omega))).grow hgr
    · obtain ⟨M, es, c, e1, e2, e3, e4⟩ := hI.map (up_of hz (by omega))
      exact ⟨M, es, c, by rw [sp _ (by omega)]; exact e1, e2, e3, e4.up 56 (fun p hp => by have := insl_lt p hp; omega)⟩
    · rw [sp _ (by omega), sp _ (by omega)]; exact hI.t51 (up_of hz (by omega))
    · rw [sp _ (by omega)]; exact hI.t52 (up_of hz (by omega))
    · obtain ⟨v1, ok, e1, e2⟩ := hI.t53 (up_of hz (by omega)); exact ⟨v1, ok, by rw [sp _ (by omega)]; exact e1, e2.grow hgr⟩
    · rw [sp _ (by omega), sp _ (by omega)]; exact hI.t54 (up_of hz (by omega))
    · rw [sp _ (by omega), sp _ (by omega)]; exact hI.t55 (up_of hz (by omega))
    · exact ⟨v, ok, by rw [sp _ (by omega)]; exact e3, sl⟩
    · rw [sp _ (by omega), sp _ (by omega)]; exact hI.t57 (up_of hz (by omega))
    · exact absurd (up_of hz (by omega)) (by rw [hn 58 hO58]; decide)

theorem at_57 (hoi : ops[i]? = some oi) (hi : i = 57) (hd : oi.dst = some 9) (hg : oi.guard = none) (ho : oi.op = .assign (.tmp 64))  : StepAt Try.prog ops Q B3 O (Inv x a0 W) i := by
  subst hi
  intro b a w hI hbi hw hn
  refine ⟨oi, hoi, fun K hK => ?_⟩
  have hs : 9 < a.tmps.size := by rw [hI.size]; decide
  refine value_ (v := slot a 64) (w1 := w) (wanted_none hg) rfl ?_ ?_
  · unfold execOp
    simp only [ho]
    rfl
  · rw [hd]
    have sp : ∀ s, s ≠ 9 → slot (a.put (some 9) (slot a 64)) s = slot a s := fun s hs => slot_put a 9 s _ hs
    have sl : slot (a.put (some 9) (slot a 64)) 9 = slot a 64 := slot_self a 9 _ hs
    have hgr : Grow w (w) := fun _ _ _ _ h => h
    refine hK.out _ _ ⟨hI.defs, by rw [put_size, hI.size], fun s hs => by rw [sp s (by omega)]; exact hI.low s hs, hI.bel, fun p hp hbp => ?_, fun hz => ?_, fun hz => ?_, fun hz => ?_, fun hz => ?_, fun hz => ?_, fun hz => ?_, fun hz => ?_, fun hz => ?_, fun hz => ?_⟩
    · have h9 := tabl_lt p hp
      rw [sp _ (by omega)]
      exact (hI.vals p hp (up_of hbp (by omega))).grow hgr
    · obtain ⟨M, es, c, e1, e2, e3, e4⟩ := hI.map (up_of hz (by omega))
      exact ⟨M, es, c, by rw [sp _ (by omega)]; exact e1, e2, e3, e4.up 57 (fun p hp => by have := insl_lt p hp; omega)⟩
    · rw [sp _ (by omega), sp _ (by omega)]; exact hI.t51 (up_of hz (by omega))
    · rw [sp _ (by omega)]; exact hI.t52 (up_of hz (by omega))
    · obtain ⟨v1, ok, e1, e2⟩ := hI.t53 (up_of hz (by omega)); exact ⟨v1, ok, by rw [sp _ (by omega)]; exact e1, e2.grow hgr⟩
    · rw [sp _ (by omega), sp _ (by omega)]; exact hI.t54 (up_of hz (by omega))
    · rw [sp _ (by omega), sp _ (by omega)]; exact hI.t55 (up_of hz (by omega))
    · rw [sp _ (by omega), sp _ (by omega)]; exact hI.t56 (up_of hz (by omega))
    · rw [sl, sp _ (by omega)]
    · rw [sp _ (by omega), sp _ (by omega)]; exact hI.t58 (up_of hz (by omega))

theorem at_58 (hoi : ops[i]? = some oi) (hi : i = 58) (hd : oi.dst = some 10) (hg : oi.guard = none) (ho : oi.op = .assign (.tmp 65))  : StepAt Try.prog ops Q B3 O (Inv x a0 W) i := by
  subst hi
  intro b a w hI hbi hw hn
  refine ⟨oi, hoi, fun K hK => ?_⟩
  have hs : 10 < a.tmps.size := by rw [hI.size]; decide
  refine value_ (v := slot a 65) (w1 := w) (wanted_none hg) rfl ?_ ?_
  · unfold execOp
    simp only [ho]
    rfl
  · rw [hd]
    have sp : ∀ s, s ≠ 10 → slot (a.put (some 10) (slot a 65)) s = slot a s := fun s hs => slot_put a 10 s _ hs
    have sl : slot (a.put (some 10) (slot a 65)) 10 = slot a 65 := slot_self a 10 _ hs
    have hgr : Grow w (w) := fun _ _ _ _ h => h
    refine hK.out _ _ ⟨hI.defs, by rw [put_size, hI.size], fun s hs => by rw [sp s (by omega)]; exact hI.low s hs, hI.bel, fun p hp hbp => ?_, fun hz => ?_, fun hz => ?_, fun hz => ?_, fun hz => ?_, fun hz => ?_, fun hz => ?_, fun hz => ?_, fun hz => ?_, fun hz => ?_⟩
    · have h9 := tabl_lt p hp
      rw [sp _ (by omega)]
      exact (hI.vals p hp (up_of hbp (by omega))).grow hgr
    · obtain ⟨M, es, c, e1, e2, e3, e4⟩ := hI.map (up_of hz (by omega))
      exact ⟨M, es, c, by rw [sp _ (by omega)]; exact e1, e2, e3, e4.up 58 (fun p hp => by have := insl_lt p hp; omega)⟩
    · rw [sp _ (by omega), sp _ (by omega)]; exact hI.t51 (up_of hz (by omega))
    · rw [sp _ (by omega)]; exact hI.t52 (up_of hz (by omega))
    · obtain ⟨v1, ok, e1, e2⟩ := hI.t53 (up_of hz (by omega)); exact ⟨v1, ok, by rw [sp _ (by omega)]; exact e1, e2.grow hgr⟩
    · rw [sp _ (by omega), sp _ (by omega)]; exact hI.t54 (up_of hz (by omega))
    · rw [sp _ (by omega), sp _ (by omega)]; exact hI.t55 (up_of hz (by omega))
    · rw [sp _ (by omega), sp _ (by omega)]; exact hI.t56 (up_of hz (by omega))
    · rw [sp _ (by omega), sp _ (by omega)]; exact hI.t57 (up_of hz (by omega))
    · rw [sl, sp _ (by omega)]

theorem at_insert {key : Int} {s is : Nat} {l : List Ask} (hoi : ops[i]? = some oi) (hd : oi.dst = none) (hg : oi.guard = none) (ho : oi.op = .insert 60 (.tmp 22) (.const (.int .i64 key)) (.tmp s))
    (hs : (is, s, A.row l) ∈ tabl) (hws : (O.contains is && (B3.getD i 0).testBit is) = true) (hw0 : (O.contains 0 && (B3.getD i 0).testBit 0) = true) (hm : (i, key, l) ∈ insl) (hu : ∀ p ∈ insl, p.2.1 = key → p.1 = i) (hu2 : ∀ p ∈ insl, p.1 = i → p.2.1 = key)
    (hlt : i < 51 ∧ 0 < i) (hti : ∀ p ∈ tabl, p.1 ≠ i) : StepAt Try.prog ops Q B3 O (Inv x a0 W) i := by
  intro b a w hI hbi hw hn
  refine ⟨oi, hoi, fun K hK => ?_⟩
  obtain ⟨M, es, c, e1, e2, e3, e4⟩ := hI.map (hw 0 hw0)
  have hrow : RowV w l (slot a s) := hI.vals _ hs (hw is hws)
  have hks : ∀ e ∈ es.toList, MapKept.IsKey (.int .i64) e.key := fun e he => by
    obtain ⟨p, _, _, f2, _⟩ := e4.1 e he
    rw [f2]; rfl
  have hno : ∀ e ∈ es.toList, e.key ≠ .int .i64 key := fun e he hk => by
    obtain ⟨p, hp, f1, f2, _⟩ := e4.1 e he
    rw [f2] at hk
    injection hk with _ hk
    rw [hu p hp hk] at f1
    rw [hbi] at f1
    cases f1
  have hfind : Instr.findNow (.int .i64) (.int .i64 key) es.toList 0 = some none := by
    rcases MapKept.findNow_spec (d := .int .i64) (k := .int .i64 key) rfl es.toList 0 hks with ⟨h1, _⟩ | ⟨j, e, _, h2, h3⟩
    · exact h1
    · exact absurd h3 (hno e (List.mem_of_getElem? h2))
  have hrun : (Instr.mapUpdate 60 (.map (some M)) (.int .i64 key) (slot a s)).run Try.prog w = .ok () { w with heap := w.heap.setIfInBounds M (.map (es.push { key := .int .i64 key, val := slot a s, born := c }) (c + 1)) } := by
    simp [Instr.mapUpdate, run_underlying Try.underlying60, MapKept.run_getObj_map e3, MapKept.run_checkKey Try.underlying3 (show MapKept.IsKey (.int .i64) (.int .i64 key) from rfl), MapKept.run_findKey Try.underlying3 hfind, MapKept.run_setObj_map _ e3, Result.andThen]
  have hset := MapKept.heap_set (o' := .map (es.push { key := .int .i64 key, val := slot a s, born := c }) (c + 1)) e3
  have hgr : Grow w { w with heap := w.heap.setIfInBounds M (.map (es.push { key := .int .i64 key, val := slot a s, born := c }) (c + 1)) } := fun k cs t fr hk => by
    have hne : k ≠ M := fun e => by rw [e, e3] at hk; cases hk
    exact (hset.2 k hne).trans hk
  rw [hd]
  refine skip_ (w1 := { w with heap := w.heap.setIfInBounds M (.map (es.push { key := .int .i64 key, val := slot a s, born := c }) (c + 1)) }) (wanted_none hg) hd ?_ ?_
  · unfold execOp
    simp only [ho, Sem.run_bind, eval_tmp, eval_const]
    rw [e1, hrun]
    rfl
  · refine hK.out _ _ ⟨hI.defs, hI.size, hI.low, hI.bel.trans ⟨rfl, rfl, rfl, by simp, fun k hk => hset.2 k (by omega)⟩, fun p hp hbp => (hI.vals p hp (up_of hbp (hti p hp))).grow hgr, fun _ => ?_, fun hz => hI.t51 (up_of hz (by omega)), fun hz => hI.t52 (up_of hz (by omega)), fun hz => ?_, fun hz => hI.t54 (up_of hz (by omega)), fun hz => hI.t55 (up_of hz (by omega)), fun hz => hI.t56 (up_of hz (by omega)), fun hz => hI.t57 (up_of hz (by omega)), fun hz => hI.t58 (up_of hz (by omega))⟩
    · refine ⟨M, _, _, e1, e2, hset.1, fun e he => ?_, fun p hp hbp => ?_⟩
      · rw [Array.toList_push, List.mem_append, List.mem_singleton] at he
        rcases he with he | rfl
        · obtain ⟨p, hp, f1, f2, f3⟩ := e4.1 e he
          refine ⟨p, hp, ?_, f2, f3.grow hgr⟩
          by_cases q : p.1 = i
          · rw [q]; exact up_self b i
          · rw [up_ne q]; exact f1
        · exact ⟨_, hm, up_self b i, rfl, hrow.grow hgr⟩
      · rw [Array.toList_push]
        by_cases q : p.1 = i
        · exact ⟨_, List.mem_append.2 (.inr (List.mem_singleton.2 rfl)), by rw [hu2 p hp q]⟩
        · obtain ⟨e, he, f⟩ := e4.2 p hp (up_of hbp q)
          exact ⟨e, List.mem_append.2 (.inl he), f⟩
    · obtain ⟨v1, ok, g1, g2⟩ := hI.t53 (up_of hz (by omega))
      exact ⟨v1, ok, g1, g2.grow hgr⟩
end
def O3 : List Nat := [0, 1, 2, 3, 4, 5, 6, 7, 8, 9, 10, 11, 12, 13, 14, 15, 16, 17, 18, 19, 20, 21, 22, 23, 24, 25, 26, 27, 28, 29, 30, 31, 32, 33, 34, 35, 36, 37, 38, 39, 40, 41, 42, 43, 44, 45, 46, 47, 48, 49, 50, 51, 52, 53, 54, 55, 56, 57, 58]
theorem oper_of {ops : Array Oper} {i : Nat} {d : Option Tmp} {op : Op} (h : (ops[i]?).map (fun o => (o.dst, o.op, o.guard)) = some (d, op, none)) : ∃ oi, ops[i]? = some oi ∧ oi.dst = d ∧ oi.guard = none ∧ oi.op = op := by
  obtain ⟨oi, h1, h2⟩ := Option.map_eq_some_iff.1 h
  simp only [Prod.mk.injEq] at h2
  exact ⟨oi, h1, h2.1, h2.2.2, h2.2.1⟩
set_option maxRecDepth 100000 in
set_option maxHeartbeats 8000000 in
theorem asks_steps (x : Int) (a0 : Act) (W : World) (Q : Exit → Act → World → Prop) (hx : slot a0 0 = .int .i64 x) (b4 : BoxOf a0 W 4 ⟨0, 5, 6⟩) (b5 : BoxOf a0 W 5 ⟨0, 5, 7⟩) (b6 : BoxOf a0 W 6 ⟨0, 3, 5⟩) (b7 : BoxOf a0 W 7 ⟨(-1), 5, 6⟩) (b8 : BoxOf a0 W 8 ⟨(-1), 5, 13⟩) :
    ∀ i ∈ O3, StepAt Try.prog (opsOf Try.f22 3) Q B3 O3 (Inv x a0 W) i := by
  unfold O3
  obtain ⟨o0, h0, d0, g0, p0⟩ := oper_of (ops := opsOf Try.f22 3) (i := 0) (d := (some 22)) (op := Op.makeMap 60 none) (by kernel_rfl)
  refine steps_cons (at_make h0 rfl d0 g0 p0 (by decide +kernel) (by decide +kernel)) ?_
  obtain ⟨o1, h1, d1, g1, p1⟩ := oper_of (ops := opsOf Try.f22 3) (i := 1) (d := (some 23)) (op := Op.load 59 (Operand.tmp 4)) (by kernel_rfl)
  refine steps_cons (at_load (t := 23) (p := 4) (y := ⟨0, 5, 6⟩) h1 d1 g1 p1 (by decide) b4 (by decide +kernel) (by decide +kernel)) ?_
  obtain ⟨o2, h2, d2, g2, p2⟩ := oper_of (ops := opsOf Try.f22 3) (i := 2) (d := (some 24)) (op := Op.call { callee := Callee.value (Operand.func 26), args := #[Operand.const (Value.int IntKind.i64 0), Operand.const (Value.int IntKind.i64 4)], argTypes := #[3, 3] }) (by kernel_rfl)
  refine steps_cons (at_call (t := 24) (lo := 0) (hi := 4) h2 d2 g2 p2 (by decide +kernel) (by decide +kernel)) ?_
  obtain ⟨o3, h3, d3, g3, p3⟩ := oper_of (ops := opsOf Try.f22 3) (i := 3) (d := (some 25)) (op := Op.build 59 #[(0, Operand.tmp 24), (1, Operand.const (Value.int IntKind.i64 1))]) (by kernel_rfl)
  refine steps_cons (at_build (t := 25) (s := 24) (is := 2) (lo := 0) (hi := 4) (e := 1) h3 d3 g3 p3 (by decide +kernel) (by decide +kernel) (by decide +kernel) (by decide +kernel)) ?_
  obtain ⟨o4, h4, d4, g4, p4⟩ := oper_of (ops := opsOf Try.f22 3) (i := 4) (d := (some 26)) (op := Op.load 59 (Operand.tmp 8)) (by kernel_rfl)
  refine steps_cons (at_load (t := 26) (p := 8) (y := ⟨(-1), 5, 13⟩) h4 d4 g4 p4 (by decide) b8 (by decide +kernel) (by decide +kernel)) ?_
  obtain ⟨o5, h5, d5, g5, p5⟩ := oper_of (ops := opsOf Try.f22 3) (i := 5) (d := (some 27)) (op := Op.buildSlice 49 3 #[(0, Operand.tmp 23), (1, Operand.tmp 25), (2, Operand.tmp 26)]) (by kernel_rfl)
  refine steps_cons (at_slice3 (t := 27) (t0 := 23) (i0 := 1) (x0 := ⟨0, 5, 6⟩) (t1 := 25) (i1 := 3) (x1 := ⟨0, 4, 1⟩) (t2 := 26) (i2 := 4) (x2 := ⟨(-1), 5, 13⟩) h5 d5 g5 p5 (by decide +kernel) (by decide +kernel) (by decide +kernel) (by decide +kernel) (by decide +kernel) (by decide +kernel) (by decide +kernel) (by decide +kernel)) ?_
  obtain ⟨o6, h6, d6, g6, p6⟩ := oper_of (ops := opsOf Try.f22 3) (i := 6) (d := none) (op := Op.insert 60 (Operand.tmp 22) (Operand.const (Value.int IntKind.i64 1)) (Operand.tmp 27)) (by kernel_rfl)
  refine steps_cons (at_insert (key := 1) (s := 27) (is := 5) (l := [⟨0, 5, 6⟩, ⟨0, 4, 1⟩, ⟨(-1), 5, 13⟩]) h6 d6 g6 p6 (by decide +kernel) (by decide +kernel) (by decide +kernel) (by decide +kernel) (by decide +kernel) (by decide +kernel) (by decide +kernel) (by decide +kernel) ) ?_
  obtain ⟨o7, h7, d7, g7, p7⟩ := oper_of (ops := opsOf Try.f22 3) (i := 7) (d := (some 28)) (op := Op.load 59 (Operand.tmp 4)) (by kernel_rfl)
  refine steps_cons (at_load (t := 28) (p := 4) (y := ⟨0, 5, 6⟩) h7 d7 g7 p7 (by decide) b4 (by decide +kernel) (by decide +kernel)) ?_
  obtain ⟨o8, h8, d8, g8, p8⟩ := oper_of (ops := opsOf Try.f22 3) (i := 8) (d := (some 29)) (op := Op.load 59 (Operand.tmp 4)) (by kernel_rfl)
  refine steps_cons (at_load (t := 29) (p := 4) (y := ⟨0, 5, 6⟩) h8 d8 g8 p8 (by decide) b4 (by decide +kernel) (by decide +kernel)) ?_
  obtain ⟨o9, h9, d9, g9, p9⟩ := oper_of (ops := opsOf Try.f22 3) (i := 9) (d := (some 30)) (op := Op.buildSlice 49 2 #[(0, Operand.tmp 28), (1, Operand.tmp 29)]) (by kernel_rfl)
  refine steps_cons (at_slice2 (t := 30) (t0 := 28) (i0 := 7) (x0 := ⟨0, 5, 6⟩) (t1 := 29) (i1 := 8) (x1 := ⟨0, 5, 6⟩) h9 d9 g9 p9 (by decide +kernel) (by decide +kernel) (by decide +kernel) (by decide +kernel) (by decide +kernel) (by decide +kernel)) ?_
  obtain ⟨o10, h10, d10, g10, p10⟩ := oper_of (ops := opsOf Try.f22 3) (i := 10) (d := none) (op := Op.insert 60 (Operand.tmp 22) (Operand.const (Value.int IntKind.i64 2)) (Operand.tmp 30)) (by kernel_rfl)
  refine steps_cons (at_insert (key := 2) (s := 30) (is := 9) (l := [⟨0, 5, 6⟩, ⟨0, 5, 6⟩]) h10 d10 g10 p10 (by decide +kernel) (by decide +kernel) (by decide +kernel) (by decide +kernel) (by decide +kernel) (by decide +kernel) (by decide +kernel) (by decide +kernel) ) ?_
  obtain ⟨o11, h11, d11, g11, p11⟩ := oper_of (ops := opsOf Try.f22 3) (i := 11) (d := (some 31)) (op := Op.load 59 (Operand.tmp 4)) (by kernel_rfl)
  refine steps_cons (at_load (t := 31) (p := 4) (y := ⟨0, 5, 6⟩) h11 d11 g11 p11 (by decide) b4 (by decide +kernel) (by decide +kernel)) ?_
  obtain ⟨o12, h12, d12, g12, p12⟩ := oper_of (ops := opsOf Try.f22 3) (i := 12) (d := (some 32)) (op := Op.buildSlice 49 1 #[(0, Operand.tmp 31)]) (by kernel_rfl)
  refine steps_cons (at_slice1 (t := 32) (t0 := 31) (i0 := 11) (x0 := ⟨0, 5, 6⟩) h12 d12 g12 p12 (by decide +kernel) (by decide +kernel) (by decide +kernel) (by decide +kernel)) ?_
  obtain ⟨o13, h13, d13, g13, p13⟩ := oper_of (ops := opsOf Try.f22 3) (i := 13) (d := none) (op := Op.insert 60 (Operand.tmp 22) (Operand.const (Value.int IntKind.i64 3)) (Operand.tmp 32)) (by kernel_rfl)
  refine steps_cons (at_insert (key := 3) (s := 32) (is := 12) (l := [⟨0, 5, 6⟩]) h13 d13 g13 p13 (by decide +kernel) (by decide +kernel) (by decide +kernel) (by decide +kernel) (by decide +kernel) (by decide +kernel) (by decide +kernel) (by decide +kernel) ) ?_
  obtain ⟨o14, h14, d14, g14, p14⟩ := oper_of (ops := opsOf Try.f22 3) (i := 14) (d := (some 33)) (op := Op.load 59 (Operand.tmp 4)) (by kernel_rfl)
  refine steps_cons (at_load (t := 33) (p := 4) (y := ⟨0, 5, 6⟩) h14 d14 g14 p14 (by decide) b4 (by decide +kernel) (by decide +kernel)) ?_
  obtain ⟨o15, h15, d15, g15, p15⟩ := oper_of (ops := opsOf Try.f22 3) (i := 15) (d := (some 34)) (op := Op.load 59 (Operand.tmp 4)) (by kernel_rfl)
  refine steps_cons (at_load (t := 34) (p := 4) (y := ⟨0, 5, 6⟩) h15 d15 g15 p15 (by decide) b4 (by decide +kernel) (by decide +kernel)) ?_
  obtain ⟨o16, h16, d16, g16, p16⟩ := oper_of (ops := opsOf Try.f22 3) (i := 16) (d := (some 35)) (op := Op.load 59 (Operand.tmp 6)) (by kernel_rfl)
  refine steps_cons (at_load (t := 35) (p := 6) (y := ⟨0, 3, 5⟩) h16 d16 g16 p16 (by decide) b6 (by decide +kernel) (by decide +kernel)) ?_
  obtain ⟨o17, h17, d17, g17, p17⟩ := oper_of (ops := opsOf Try.f22 3) (i := 17) (d := (some 36)) (op := Op.buildSlice 49 3 #[(0, Operand.tmp 33), (1, Operand.tmp 34), (2, Operand.tmp 35)]) (by kernel_rfl)
  refine steps_cons (at_slice3 (t := 36) (t0 := 33) (i0 := 14) (x0 := ⟨0, 5, 6⟩) (t1 := 34) (i1 := 15) (x1 := ⟨0, 5, 6⟩) (t2 := 35) (i2 := 16) (x2 := ⟨0, 3, 5⟩) h17 d17 g17 p17 (by decide +kernel) (by decide +kernel) (by decide +kernel) (by decide +kernel) (by decide +kernel) (by decide +kernel) (by decide +kernel) (by decide +kernel)) ?_
  obtain ⟨o18, h18, d18, g18, p18⟩ := oper_of (ops := opsOf Try.f22 3) (i := 18) (d := none) (op := Op.insert 60 (Operand.tmp 22) (Operand.const (Value.int IntKind.i64 4)) (Operand.tmp 36)) (by kernel_rfl)
  refine steps_cons (at_insert (key := 4) (s := 36) (is := 17) (l := [⟨0, 5, 6⟩, ⟨0, 5, 6⟩, ⟨0, 3, 5⟩]) h18 d18 g18 p18 (by decide +kernel) (by decide +kernel) (by decide +kernel) (by decide +kernel) (by decide +kernel) (by decide +kernel) (by decide +kernel) (by decide +kernel) ) ?_
  obtain ⟨o19, h19, d19, g19, p19⟩ := oper_of (ops := opsOf Try.f22 3) (i := 19) (d := (some 37)) (op := Op.load 59 (Operand.tmp 4)) (by kernel_rfl)
  refine steps_cons (at_load (t := 37) (p := 4) (y := ⟨0, 5, 6⟩) h19 d19 g19 p19 (by decide) b4 (by decide +kernel) (by decide +kernel)) ?_
  obtain ⟨o20, h20, d20, g20, p20⟩ := oper_of (ops := opsOf Try.f22 3) (i := 20) (d := (some 38)) (op := Op.load 59 (Operand.tmp 6)) (by kernel_rfl)
  refine steps_cons (at_load (t := 38) (p := 6) (y := ⟨0, 3, 5⟩) h20 d20 g20 p20 (by decide) b6 (by decide +kernel) (by decide +kernel)) ?_
  obtain ⟨o21, h21, d21, g21, p21⟩ := oper_of (ops := opsOf Try.f22 3) (i := 21) (d := (some 39)) (op := Op.load 59 (Operand.tmp 7)) (by kernel_rfl)
  refine steps_cons (at_load (t := 39) (p := 7) (y := ⟨(-1), 5, 6⟩) h21 d21 g21 p21 (by decide) b7 (by decide +kernel) (by decide +kernel)) ?_
  obtain ⟨o22, h22, d22, g22, p22⟩ := oper_of (ops := opsOf Try.f22 3) (i := 22) (d := (some 40)) (op := Op.buildSlice 49 3 #[(0, Operand.tmp 37), (1, Operand.tmp 38), (2, Operand.tmp 39)]) (by kernel_rfl)
  refine steps_cons (at_slice3 (t := 40) (t0 := 37) (i0 := 19) (x0 := ⟨0, 5, 6⟩) (t1 := 38) (i1 := 20) (x1 := ⟨0, 3, 5⟩) (t2 := 39) (i2 := 21) (x2 := ⟨(-1), 5, 6⟩) h22 d22 g22 p22 (by decide +kernel) (by decide +kernel) (by decide +kernel) (by decide +kernel) (by decide +kernel) (by decide +kernel) (by decide +kernel) (by decide +kernel)) ?_
  obtain ⟨o23, h23, d23, g23, p23⟩ := oper_of (ops := opsOf Try.f22 3) (i := 23) (d := none) (op := Op.insert 60 (Operand.tmp 22) (Operand.const (Value.int IntKind.i64 5)) (Operand.tmp 40)) (by kernel_rfl)
  refine steps_cons (at_insert (key := 5) (s := 40) (is := 22) (l := [⟨0, 5, 6⟩, ⟨0, 3, 5⟩, ⟨(-1), 5, 6⟩]) h23 d23 g23 p23 (by decide +kernel) (by decide +kernel) (by decide +kernel) (by decide +kernel) (by decide +kernel) (by decide +kernel) (by decide +kernel) (by decide +kernel) ) ?_
  obtain ⟨o24, h24, d24, g24, p24⟩ := oper_of (ops := opsOf Try.f22 3) (i := 24) (d := (some 41)) (op := Op.load 59 (Operand.tmp 5)) (by kernel_rfl)
  refine steps_cons (at_load (t := 41) (p := 5) (y := ⟨0, 5, 7⟩) h24 d24 g24 p24 (by decide) b5 (by decide +kernel) (by decide +kernel)) ?_
  obtain ⟨o25, h25, d25, g25, p25⟩ := oper_of (ops := opsOf Try.f22 3) (i := 25) (d := (some 42)) (op := Op.load 59 (Operand.tmp 7)) (by kernel_rfl)
  refine steps_cons (at_load (t := 42) (p := 7) (y := ⟨(-1), 5, 6⟩) h25 d25 g25 p25 (by decide) b7 (by decide +kernel) (by decide +kernel)) ?_
  obtain ⟨o26, h26, d26, g26, p26⟩ := oper_of (ops := opsOf Try.f22 3) (i := 26) (d := (some 43)) (op := Op.load 59 (Operand.tmp 8)) (by kernel_rfl)
  refine steps_cons (at_load (t := 43) (p := 8) (y := ⟨(-1), 5, 13⟩) h26 d26 g26 p26 (by decide) b8 (by decide +kernel) (by decide +kernel)) ?_
  obtain ⟨o27, h27, d27, g27, p27⟩ := oper_of (ops := opsOf Try.f22 3) (i := 27) (d := (some 44)) (op := Op.buildSlice 49 3 #[(0, Operand.tmp 41), (1, Operand.tmp 42), (2, Operand.tmp 43)]) (by kernel_rfl)
  refine steps_cons (at_slice3 (t := 44) (t0 := 41) (i0 := 24) (x0 := ⟨0, 5, 7⟩) (t1 := 42) (i1 := 25) (x1 := ⟨(-1), 5, 6⟩) (t2 := 43) (i2 := 26) (x2 := ⟨(-1), 5, 13⟩) h27 d27 g27 p27 (by decide +kernel) (by decide +kernel) (by decide +kernel) (by decide +kernel) (by decide +kernel) (by decide +kernel) (by decide +kernel) (by decide +kernel)) ?_
  obtain ⟨o28, h28, d28, g28, p28⟩ := oper_of (ops := opsOf Try.f22 3) (i := 28) (d := none) (op := Op.insert 60 (Operand.tmp 22) (Operand.const (Value.int IntKind.i64 6)) (Operand.tmp 44)) (by kernel_rfl)
  refine steps_cons (at_insert (key := 6) (s := 44) (is := 27) (l := [⟨0, 5, 7⟩, ⟨(-1), 5, 6⟩, ⟨(-1), 5, 13⟩]) h28 d28 g28 p28 (by decide +kernel) (by decide +kernel) (by decide +kernel) (by decide +kernel) (by decide +kernel) (by decide +kernel) (by decide +kernel) (by decide +kernel) ) ?_
  obtain ⟨o29, h29, d29, g29, p29⟩ := oper_of (ops := opsOf Try.f22 3) (i := 29) (d := (some 45)) (op := Op.load 59 (Operand.tmp 4)) (by kernel_rfl)
  refine steps_cons (at_load (t := 45) (p := 4) (y := ⟨0, 5, 6⟩) h29 d29 g29 p29 (by decide) b4 (by decide +kernel) (by decide +kernel)) ?_
  obtain ⟨o30, h30, d30, g30, p30⟩ := oper_of (ops := opsOf Try.f22 3) (i := 30) (d := (some 46)) (op := Op.load 59 (Operand.tmp 5)) (by kernel_rfl)
  refine steps_cons (at_load (t := 46) (p := 5) (y := ⟨0, 5, 7⟩) h30 d30 g30 p30 (by decide) b5 (by decide +kernel) (by decide +kernel)) ?_
  obtain ⟨o31, h31, d31, g31, p31⟩ := oper_of (ops := opsOf Try.f22 3) (i := 31) (d := (some 47)) (op := Op.buildSlice 49 2 #[(0, Operand.tmp 45), (1, Operand.tmp 46)]) (by kernel_rfl)
  refine steps_cons (at_slice2 (t := 47) (t0 := 45) (i0 := 29) (x0 := ⟨0, 5, 6⟩) (t1 := 46) (i1 := 30) (x1 := ⟨0, 5, 7⟩) h31 d31 g31 p31 (by decide +kernel) (by decide +kernel) (by decide +kernel) (by decide +kernel) (by decide +kernel) (by decide +kernel)) ?_
  obtain ⟨o32, h32, d32, g32, p32⟩ := oper_of (ops := opsOf Try.f22 3) (i := 32) (d := none) (op := Op.insert 60 (Operand.tmp 22) (Operand.const (Value.int IntKind.i64 7)) (Operand.tmp 47)) (by kernel_rfl)
  refine steps_cons (at_insert (key := 7) (s := 47) (is := 31) (l := [⟨0, 5, 6⟩, ⟨0, 5, 7⟩]) h32 d32 g32 p32 (by decide +kernel) (by decide +kernel) (by decide +kernel) (by decide +kernel) (by decide +kernel) (by decide +kernel) (by decide +kernel) (by decide +kernel) ) ?_
  obtain ⟨o33, h33, d33, g33, p33⟩ := oper_of (ops := opsOf Try.f22 3) (i := 33) (d := (some 48)) (op := Op.load 59 (Operand.tmp 4)) (by kernel_rfl)
  refine steps_cons (at_load (t := 48) (p := 4) (y := ⟨0, 5, 6⟩) h33 d33 g33 p33 (by decide) b4 (by decide +kernel) (by decide +kernel)) ?_
  obtain ⟨o34, h34, d34, g34, p34⟩ := oper_of (ops := opsOf Try.f22 3) (i := 34) (d := (some 49)) (op := Op.load 59 (Operand.tmp 7)) (by kernel_rfl)
  refine steps_cons (at_load (t := 49) (p := 7) (y := ⟨(-1), 5, 6⟩) h34 d34 g34 p34 (by decide) b7 (by decide +kernel) (by decide +kernel)) ?_
  obtain ⟨o35, h35, d35, g35, p35⟩ := oper_of (ops := opsOf Try.f22 3) (i := 35) (d := (some 50)) (op := Op.buildSlice 49 2 #[(0, Operand.tmp 48), (1, Operand.tmp 49)]) (by kernel_rfl)
  refine steps_cons (at_slice2 (t := 50) (t0 := 48) (i0 := 33) (x0 := ⟨0, 5, 6⟩) (t1 := 49) (i1 := 34) (x1 := ⟨(-1), 5, 6⟩) h35 d35 g35 p35 (by decide +kernel) (by decide +kernel) (by decide +kernel) (by decide +kernel) (by decide +kernel) (by decide +kernel)) ?_
  obtain ⟨o36, h36, d36, g36, p36⟩ := oper_of (ops := opsOf Try.f22 3) (i := 36) (d := none) (op := Op.insert 60 (Operand.tmp 22) (Operand.const (Value.int IntKind.i64 8)) (Operand.tmp 50)) (by kernel_rfl)
  refine steps_cons (at_insert (key := 8) (s := 50) (is := 35) (l := [⟨0, 5, 6⟩, ⟨(-1), 5, 6⟩]) h36 d36 g36 p36 (by decide +kernel) (by decide +kernel) (by decide +kernel) (by decide +kernel) (by decide +kernel) (by decide +kernel) (by decide +kernel) (by decide +kernel) ) ?_
  obtain ⟨o37, h37, d37, g37, p37⟩ := oper_of (ops := opsOf Try.f22 3) (i := 37) (d := (some 51)) (op := Op.load 59 (Operand.tmp 4)) (by kernel_rfl)
  refine steps_cons (at_load (t := 51) (p := 4) (y := ⟨0, 5, 6⟩) h37 d37 g37 p37 (by decide) b4 (by decide +kernel) (by decide +kernel)) ?_
  obtain ⟨o38, h38, d38, g38, p38⟩ := oper_of (ops := opsOf Try.f22 3) (i := 38) (d := (some 52)) (op := Op.load 59 (Operand.tmp 4)) (by kernel_rfl)
  refine steps_cons (at_load (t := 52) (p := 4) (y := ⟨0, 5, 6⟩) h38 d38 g38 p38 (by decide) b4 (by decide +kernel) (by decide +kernel)) ?_
  obtain ⟨o39, h39, d39, g39, p39⟩ := oper_of (ops := opsOf Try.f22 3) (i := 39) (d := (some 53)) (op := Op.buildSlice 49 2 #[(0, Operand.tmp 51), (1, Operand.tmp 52)]) (by kernel_rfl)
  refine steps_cons (at_slice2 (t := 53) (t0 := 51) (i0 := 37) (x0 := ⟨0, 5, 6⟩) (t1 := 52) (i1 := 38) (x1 := ⟨0, 5, 6⟩) h39 d39 g39 p39 (by decide +kernel) (by decide +kernel) (by decide +kernel) (by decide +kernel) (by decide +kernel) (by decide +kernel)) ?_
  obtain ⟨o40, h40, d40, g40, p40⟩ := oper_of (ops := opsOf Try.f22 3) (i := 40) (d := none) (op := Op.insert 60 (Operand.tmp 22) (Operand.const (Value.int IntKind.i64 9)) (Operand.tmp 53)) (by kernel_rfl)
  refine steps_cons (at_insert (key := 9) (s := 53) (is := 39) (l := [⟨0, 5, 6⟩, ⟨0, 5, 6⟩]) h40 d40 g40 p40 (by decide +kernel) (by decide +kernel) (by decide +kernel) (by decide +kernel) (by decide +kernel) (by decide +kernel) (by decide +kernel) (by decide +kernel) ) ?_
  obtain ⟨o41, h41, d41, g41, p41⟩ := oper_of (ops := opsOf Try.f22 3) (i := 41) (d := (some 54)) (op := Op.load 59 (Operand.tmp 4)) (by kernel_rfl)
  refine steps_cons (at_load (t := 54) (p := 4) (y := ⟨0, 5, 6⟩) h41 d41 g41 p41 (by decide) b4 (by decide +kernel) (by decide +kernel)) ?_
  obtain ⟨o42, h42, d42, g42, p42⟩ := oper_of (ops := opsOf Try.f22 3) (i := 42) (d := (some 55)) (op := Op.load 59 (Operand.tmp 4)) (by kernel_rfl)
  refine steps_cons (at_load (t := 55) (p := 4) (y := ⟨0, 5, 6⟩) h42 d42 g42 p42 (by decide) b4 (by decide +kernel) (by decide +kernel)) ?_
  obtain ⟨o43, h43, d43, g43, p43⟩ := oper_of (ops := opsOf Try.f22 3) (i := 43) (d := (some 56)) (op := Op.buildSlice 49 2 #[(0, Operand.tmp 54), (1, Operand.tmp 55)]) (by kernel_rfl)
  refine steps_cons (at_slice2 (t := 56) (t0 := 54) (i0 := 41) (x0 := ⟨0, 5, 6⟩) (t1 := 55) (i1 := 42) (x1 := ⟨0, 5, 6⟩) h43 d43 g43 p43 (by decide +kernel) (by decide +kernel) (by decide +kernel) (by decide +kernel) (by decide +kernel) (by decide +kernel)) ?_
  obtain ⟨o44, h44, d44, g44, p44⟩ := oper_of (ops := opsOf Try.f22 3) (i := 44) (d := none) (op := Op.insert 60 (Operand.tmp 22) (Operand.const (Value.int IntKind.i64 10)) (Operand.tmp 56)) (by kernel_rfl)
  refine steps_cons (at_insert (key := 10) (s := 56) (is := 43) (l := [⟨0, 5, 6⟩, ⟨0, 5, 6⟩]) h44 d44 g44 p44 (by decide +kernel) (by decide +kernel) (by decide +kernel) (by decide +kernel) (by decide +kernel) (by decide +kernel) (by decide +kernel) (by decide +kernel) ) ?_
  obtain ⟨o45, h45, d45, g45, p45⟩ := oper_of (ops := opsOf Try.f22 3) (i := 45) (d := (some 57)) (op := Op.buildSlice 49 0 #[]) (by kernel_rfl)
  refine steps_cons (at_slice0 (t := 57)  h45 d45 g45 p45 (by decide +kernel) (by decide +kernel)) ?_
  obtain ⟨o46, h46, d46, g46, p46⟩ := oper_of (ops := opsOf Try.f22 3) (i := 46) (d := none) (op := Op.insert 60 (Operand.tmp 22) (Operand.const (Value.int IntKind.i64 11)) (Operand.tmp 57)) (by kernel_rfl)
  refine steps_cons (at_insert (key := 11) (s := 57) (is := 45) (l := []) h46 d46 g46 p46 (by decide +kernel) (by decide +kernel) (by decide +kernel) (by decide +kernel) (by decide +kernel) (by decide +kernel) (by decide +kernel) (by decide +kernel) ) ?_
  obtain ⟨o47, h47, d47, g47, p47⟩ := oper_of (ops := opsOf Try.f22 3) (i := 47) (d := (some 58)) (op := Op.call { callee := Callee.value (Operand.func 26), args := #[Operand.const (Value.int IntKind.i64 0), Operand.const (Value.int IntKind.i64 200)], argTypes := #[3, 3] }) (by kernel_rfl)
  refine steps_cons (at_call (t := 58) (lo := 0) (hi := 200) h47 d47 g47 p47 (by decide +kernel) (by decide +kernel)) ?_
  obtain ⟨o48, h48, d48, g48, p48⟩ := oper_of (ops := opsOf Try.f22 3) (i := 48) (d := (some 59)) (op := Op.build 59 #[(0, Operand.tmp 58), (1, Operand.const (Value.int IntKind.i64 12))]) (by kernel_rfl)
  refine steps_cons (at_build (t := 59) (s := 58) (is := 47) (lo := 0) (hi := 200) (e := 12) h48 d48 g48 p48 (by decide +kernel) (by decide +kernel) (by decide +kernel) (by decide +kernel)) ?_
  obtain ⟨o49, h49, d49, g49, p49⟩ := oper_of (ops := opsOf Try.f22 3) (i := 49) (d := (some 60)) (op := Op.buildSlice 49 1 #[(0, Operand.tmp 59)]) (by kernel_rfl)
  refine steps_cons (at_slice1 (t := 60) (t0 := 59) (i0 := 48) (x0 := ⟨0, 200, 12⟩) h49 d49 g49 p49 (by decide +kernel) (by decide +kernel) (by decide +kernel) (by decide +kernel)) ?_
  obtain ⟨o50, h50, d50, g50, p50⟩ := oper_of (ops := opsOf Try.f22 3) (i := 50) (d := none) (op := Op.insert 60 (Operand.tmp 22) (Operand.const (Value.int IntKind.i64 12)) (Operand.tmp 60)) (by kernel_rfl)
  refine steps_cons (at_insert (key := 12) (s := 60) (is := 49) (l := [⟨0, 200, 12⟩]) h50 d50 g50 p50 (by decide +kernel) (by decide +kernel) (by decide +kernel) (by decide +kernel) (by decide +kernel) (by decide +kernel) (by decide +kernel) (by decide +kernel) ) ?_
  obtain ⟨o51, h51, d51, g51, p51⟩ := oper_of (ops := opsOf Try.f22 3) (i := 51) (d := (some 61)) (op := Op.move (Operand.tmp 22)) (by kernel_rfl)
  refine steps_cons (at_51 h51 rfl d51 g51 p51) ?_
  obtain ⟨o52, h52, d52, g52, p52⟩ := oper_of (ops := opsOf Try.f22 3) (i := 52) (d := (some 62)) (op := Op.move (Operand.tmp 0)) (by kernel_rfl)
  refine steps_cons (at_52 h52 rfl d52 g52 p52 hx) ?_
  obtain ⟨o53, h53, d53, g53, p53⟩ := oper_of (ops := opsOf Try.f22 3) (i := 53) (d := (some 63)) (op := Op.lookup 60 (Operand.tmp 61) (Operand.tmp 62) true) (by kernel_rfl)
  refine steps_cons (at_53 h53 rfl d53 g53 p53 (by decide +kernel) (by decide +kernel) (by decide +kernel) (by decide +kernel) (by decide +kernel)) ?_
  obtain ⟨o54, h54, d54, g54, p54⟩ := oper_of (ops := opsOf Try.f22 3) (i := 54) (d := (some 21)) (op := Op.move (Operand.tmp 63)) (by kernel_rfl)
  refine steps_cons (at_54 h54 rfl d54 g54 p54 (by decide +kernel) (by decide +kernel)) ?_
  obtain ⟨o55, h55, d55, g55, p55⟩ := oper_of (ops := opsOf Try.f22 3) (i := 55) (d := (some 64)) (op := Op.extract (Operand.tmp 21) 0) (by kernel_rfl)
  refine steps_cons (at_55 h55 rfl d55 g55 p55 (by decide +kernel) (by decide +kernel) (by decide +kernel)) ?_
  obtain ⟨o56, h56, d56, g56, p56⟩ := oper_of (ops := opsOf Try.f22 3) (i := 56) (d := (some 65)) (op := Op.extract (Operand.tmp 21) 1) (by kernel_rfl)
  refine steps_cons (at_56 h56 rfl d56 g56 p56 (by decide +kernel) (by decide +kernel) (by decide +kernel)) ?_
  obtain ⟨o57, h57, d57, g57, p57⟩ := oper_of (ops := opsOf Try.f22 3) (i := 57) (d := (some 9)) (op := Op.assign (Operand.tmp 64)) (by kernel_rfl)
  refine steps_cons (at_57 h57 rfl d57 g57 p57) ?_
  obtain ⟨o58, h58, d58, g58, p58⟩ := oper_of (ops := opsOf Try.f22 3) (i := 58) (d := (some 10)) (op := Op.assign (Operand.tmp 65)) (by kernel_rfl)
  refine steps_cons (at_58 h58 rfl d58 g58 p58) ?_
  exact steps_nil
theorem frame_of (a : Act) (h : a.tmps.size = 68) : a.tmps = ((List.range 68).map (slot a)).toArray := by
  apply Array.ext
  · simp [h]
  · intro i h1 h2
    rw [h] at h1
    simp only [List.getElem_toArray, List.getElem_map, List.getElem_range]
    unfold slot
    rw [Array.getD_eq_getD_getElem?, Array.getElem?_eq_getElem (by omega)]
    rfl
theorem boxOf_mk (a0 : Act) (w : World) (p B b1 b2 : Nat) (lo hi e : Int) (h1 : slot a0 p = .pointer (some ⟨B, 0, none⟩)) (h2 : w.heap[B]? = some (.cells #[.func (.func 27) #[] #[.pointer (some ⟨b1, 0, none⟩), .pointer (some ⟨b2, 0, none⟩)], .int .i64 e] 59 (0, 0)))
    (h3 : w.heap[b1]? = some (.cells #[.int .i64 lo] 3 (0, 0))) (h4 : w.heap[b2]? = some (.cells #[.int .i64 hi] 3 (0, 0))) : BoxOf a0 w p ⟨lo, hi, e⟩ := ⟨B, _, h1, h2, b1, b2, rfl, h3, h4⟩
theorem blk_new_at (w : World) (o : Obj) (n : Nat) (h : w.heap.size = n) : (w.alloc o).heap[n]? = some o := by
  subst h
  exact blk_new w o
theorem asks_region {Q : Exit → Act → World → Prop} {x : Int} {a0 : Act} {W : World} (hsz : a0.tmps.size = 68) (hx : slot a0 0 = .int .i64 x) (b4 : BoxOf a0 W 4 ⟨0, 5, 6⟩) (b5 : BoxOf a0 W 5 ⟨0, 5, 7⟩) (b6 : BoxOf a0 W 6 ⟨0, 3, 5⟩) (b7 : BoxOf a0 W 7 ⟨(-1), 5, 6⟩) (b8 : BoxOf a0 W 8 ⟨(-1), 5, 13⟩)
    (hend : ∀ a w v ok, a.defers = a0.defers → a.tmps.size = 68 → Below W.heap.size W w → slot a 9 = v → slot a 10 = .bool ok → Res w x v ok → Q .normal a w) :
    wpAnyLast Try.prog .any (opsOf Try.f22 3) Q (fun _ => True) [] 59 (Array.replicate 59 false) a0 W := by
  refine inv_ O3 (Inv x a0 W) tab3 bits3 (by kernel_rfl) (by kernel_rfl) ?_ (asks_steps x a0 W Q hx b4 b5 b6 b7 b8) (fun b a w hall hI => ?_)
  · exact ⟨rfl, hsz, fun _ _ => rfl, Below.refl _ _, (fun _ _ h => by cases h), (fun h => by cases h), (fun h => by cases h), (fun h => by cases h), (fun h => by cases h), (fun h => by cases h), (fun h => by cases h), (fun h => by cases h), (fun h => by cases h), (fun h => by cases h)⟩
  · obtain ⟨v, ok, e1, e2⟩ := hI.t53 (hall 53 (by decide))
    have e3 := (hI.t54 (hall 54 (by decide))).trans e1
    obtain ⟨v1, ok1, f1, f2⟩ := hI.t55 (hall 55 (by decide))
    obtain ⟨v2, ok2, g1, g2⟩ := hI.t56 (hall 56 (by decide))
    have h1 := f1.symm.trans e3
    have h2 := g1.symm.trans e3
    have hv : v1 = v := by injection h1 with h1; injection h1 with h1; injection h1
    have ho : ok2 = ok := by injection h2 with h2; injection h2 with h2; injection h2 with _ h2; injection h2 with h2; injection h2
    subst hv
    subst ho
    exact hend a w _ _ hI.defs hI.size hI.bel ((hI.t57 (hall 57 (by decide))).trans f2) ((hI.t58 (hall 58 (by decide))).trans g2) e2
set_option maxRecDepth 100000 in
set_option maxHeartbeats 8000000 in
theorem asks_c (x : Int) (w : World) : Calls Try.prog 22 #[.int .i64 x] w fun e w' => ∃ v ok, e = .returned (.tuple #[v, .bool ok]) ∧ Res w' x v ok ∧ Below w.heap.size w w' := by
  go_enter Try.func22, Try.ntmps22
  go_wp2_with (go_at_call 26; refine (to_c _ _ _).mono ?_; rintro e w' ⟨rfl, rfl⟩)
  refine start_ (n := 59) (S := fun _ => True) (ds := []) (Array.replicate 59 false) (by kernel_rfl) rfl rfl trivial (fun _ => ?_)
  refine asks_region (x := x) rfl rfl (boxOf_mk _ _ 4 _ _ _ _ _ _ rfl (blk_drew (blk_alloc (blk_alloc (blk_alloc (blk_alloc (blk_alloc (blk_alloc (blk_alloc (blk_alloc (blk_new_at _ _ _ (by simp [World.size_alloc])) _) _) _) _) _) _) _) _)) (blk_drew (blk_alloc (blk_alloc (blk_alloc (blk_alloc (blk_alloc (blk_alloc (blk_alloc (blk_alloc (blk_alloc (blk_alloc (blk_alloc (blk_alloc (blk_alloc (blk_alloc (blk_new_at _ _ _ (by simp [World.size_alloc])) _) _) _) _) _) _) _) _) _) _) _) _) _) _)) (blk_drew (blk_alloc (blk_alloc (blk_alloc (blk_alloc (blk_alloc (blk_alloc (blk_alloc (blk_alloc (blk_alloc (blk_alloc (blk_alloc (blk_alloc (blk_alloc (blk_new_at _ _ _ (by simp [World.size_alloc])) _) _) _) _) _) _) _) _) _) _) _) _) _))) (boxOf_mk _ _ 5 _ _ _ _ _ _ rfl (blk_drew (blk_alloc (blk_alloc (blk_alloc (blk_alloc (blk_alloc (blk_alloc (blk_alloc (blk_new_at _ _ _ (by simp [World.size_alloc])) _) _) _) _) _) _) _)) (blk_drew (blk_alloc (blk_alloc (blk_alloc (blk_alloc (blk_alloc (blk_alloc (blk_alloc (blk_alloc (blk_alloc (blk_alloc (blk_alloc (blk_alloc (blk_new_at _ _ _ (by simp [World.size_alloc])) _) _) _) _) _) _) _) _) _) _) _) _)) (blk_drew (blk_alloc (blk_alloc (blk_alloc (blk_alloc (blk_alloc (blk_alloc (blk_alloc (blk_alloc (blk_alloc (blk_alloc (blk_alloc (blk_new_at _ _ _ (by simp [World.size_alloc])) _) _) _) _) _) _) _) _) _) _) _))) (boxOf_mk _ _ 6 _ _ _ _ _ _ rfl (blk_drew (blk_alloc (blk_alloc (blk_alloc (blk_alloc (blk_alloc (blk_alloc (blk_new_at _ _ _ (by simp [World.size_alloc])) _) _) _) _) _) _)) (blk_drew (blk_alloc (blk_alloc (blk_alloc (blk_alloc (blk_alloc (blk_alloc (blk_alloc (blk_alloc (blk_alloc (blk_alloc (blk_new_at _ _ _ (by simp [World.size_alloc])) _) _) _) _) _) _) _) _) _) _)) (blk_drew (blk_alloc (blk_alloc (blk_alloc (blk_alloc (blk_alloc (blk_alloc (blk_alloc (blk_alloc (blk_alloc (blk_new_at _ _ _ (by simp [World.size_alloc])) _) _) _) _) _) _) _) _) _))) (boxOf_mk _ _ 7 _ _ _ _ _ _ rfl (blk_drew (blk_alloc (blk_new_at _ _ _ (by simp [World.size_alloc])) _)) (blk_drew (blk_alloc (blk_alloc (blk_alloc (blk_alloc (blk_alloc (blk_new_at _ _ _ (by simp [World.size_alloc])) _) _) _) _) _)) (blk_drew (blk_alloc (blk_alloc (blk_alloc (blk_alloc (blk_new_at _ _ _ (by simp [World.size_alloc])) _) _) _) _))) (boxOf_mk _ _ 8 _ _ _ _ _ _ rfl (blk_drew (blk_new_at _ _ _ (by simp [World.size_alloc]))) (blk_drew (blk_alloc (blk_alloc (blk_alloc (blk_new_at _ _ _ (by simp [World.size_alloc])) _) _) _)) (blk_drew (blk_alloc (blk_alloc (blk_new_at _ _ _ (by simp [World.size_alloc])) _) _))) ?_
  intro a w3 v ok hd hs hb h9 h10 hres
  have hB : Below w.heap.size w w3 := by
    refine Below.trans ?_ (hb.mono ?_)
    · exact below_drew1 (by (repeat (first | exact Below.refl _ _ | refine Below.alloc ?_ (by simp [World.size_alloc]; try omega) _)))
    · simp [World.size_alloc]; omega
  have HB := Aside0.mk hB
  have HR := Aside0.mk hres
  clear hB hres hb
  have ha : a = { tmps := ((List.range 68).map (slot a)).toArray, defers := [] } := by
    cases a with
    | mk t d =>
      have h1 := frame_of ⟨t, d⟩ hs
      have h2 : d = [] := hd
      subst h2
      rw [← h1]
  generalize hf : slot a = f at ha h9 h10
  clear hf hs hd
  rw [ha]
  clear ha
  simp only [List.range, List.range.loop, List.map_cons, List.map_nil, h9, h10]
  go_wp2
  go_ret2
  exact ⟨_, _, rfl, HR.out, HB.out⟩
/-- The first error of some numbers. -/
def firstErr : List Ask → List Int → Int
  | x :: l, n :: ns => if x.lo ≤ n ∧ n ≤ x.hi then firstErr l ns else x.e
  | _, _ => 0
theorem to1_b (lo hi n : Int) (b1 b2 : Nat) (w : World) (b : Bool) (hb : decide (lo ≤ n ∧ n ≤ hi) = b) (h1 : w.heap[b1]? = some (.cells #[.int .i64 lo] 3 (0, 0))) (h2 : w.heap[b2]? = some (.cells #[.int .i64 hi] 3 (0, 0))) :
    Calls Try.prog 27 #[.int .i64 n, .pointer (some ⟨b1, 0, none⟩), .pointer (some ⟨b2, 0, none⟩)] w fun e w' => e = .returned (.bool b) ∧ w' = w := by
  refine (to1_c lo hi n b1 b2 w h1 h2).mono ?_
  rintro e w' ⟨rfl, rfl⟩
  rw [hb]
  exact ⟨rfl, rfl⟩
theorem drewN_heap (w : World) (n : Nat) : (w.drewN n).heap = w.heap := by
  induction n with
  | zero => rfl
  | succ n ih => exact ih
set_option maxRecDepth 100000 in
set_option maxHeartbeats 4000000 in
theorem checked_c (l : List Ask) (v : Value) (a b c : Int) (B : Nat) (w : World) (hl : l.length ≤ 3) (hv : RowV w l v) (hB : w.heap[B]? = some (.cells #[.int .i64 a, .int .i64 b, .int .i64 c] 3 (0, 0))) :
    Calls Try.prog 23 #[v, .slice (some ⟨B, 0, none⟩) 3 3] w fun e w' => e = .returned (.int .i64 (firstErr l [a, b, c])) ∧ Below w.heap.size w w' := by
  obtain ⟨g, cs, rfl, hg, hrow⟩ := hv
  have HG := Aside0.mk hg
  have HR := Aside0.mk hrow
  have HB := Aside0.mk hB
  clear hg hrow hB
  go_enter Try.func23, Try.ntmps23
  go_wp2
  go_loopw [9] (fun i wr => ∃ k : Nat, k ≤ l.length ∧ i = .int .i64 k ∧ firstErr (l.drop k) ([a, b, c].drop k) = firstErr l [a, b, c] ∧ Below w.heap.size w wr) (fun i _ => l.length - (intOf i).toNat)
  case atStart => exact ⟨0, Nat.zero_le _, rfl, rfl, Below.refl _ _⟩
  case round =>
    obtain ⟨k, hk, rfl, hf, hb⟩ := hrel
    by_cases hlt : k < l.length
    · obtain ⟨f, e1, e2, b1, b2, rfl, f1, f2⟩ := HR.out k l[k] (List.getElem?_eq_getElem hlt)
      have hgr := grow_below (show Below w.heap.size w wr from hb)
      have hcs := hgr _ _ _ _ HG.out
      have c0 : wr.cell? ⟨g, k * 2, none⟩ = some (.func (.func 27) #[] #[.pointer (some ⟨b1, 0, none⟩), .pointer (some ⟨b2, 0, none⟩)]) := (blk_cell hcs _).trans e1
      have c1 : wr.cell? ⟨g, k * 2 + 1, none⟩ = some (.int .i64 l[k].e) := (blk_cell hcs _).trans e2
      have hk3 : k < 3 := by omega
      obtain ⟨n, hn⟩ : ∃ n, [a, b, c][k]? = some n := ⟨_, List.getElem?_eq_getElem hk3⟩
      have hcn : wr.cell? ⟨B, k, none⟩ = some (.int .i64 n) := by
        have h := (blk_cell (hgr _ _ _ _ HB.out) k)
        refine h.trans ?_
        obtain rfl | rfl | rfl : k = 0 ∨ k = 1 ∨ k = 2 := by omega
        all_goals (injection hn with hn; subst hn; rfl)
      have hstep : firstErr (l.drop k) ([a, b, c].drop k) = if l[k].lo ≤ n ∧ n ≤ l[k].hi then firstErr (l.drop (k + 1)) ([a, b, c].drop (k + 1)) else l[k].e := by
        rw [List.drop_eq_getElem_cons hlt, List.drop_eq_getElem_cons (show k < [a, b, c].length from hk3)]
        have : [a, b, c][k]'hk3 = n := (List.getElem?_eq_some_iff.1 hn).2
        rw [this]
        rfl
      generalize l[k] = y at c1 hstep f1 f2
      have hBA : Below w.heap.size w (wr.alloc (.cells #[.func (.func 27) #[] #[.pointer (some ⟨b1, 0, none⟩), .pointer (some ⟨b2, 0, none⟩)], .int .i64 y.e] 59)) := hb.alloc hb.size _
      have hf1 := (show Grow w _ from grow_below hBA) _ _ _ _ f1
      have hf2 := (show Grow w _ from grow_below hBA) _ _ _ _ f2
      have hcn2 : (wr.alloc (.cells #[.func (.func 27) #[] #[.pointer (some ⟨b1, 0, none⟩), .pointer (some ⟨b2, 0, none⟩)], .int .i64 y.e] 59)).cell? ⟨B, k, none⟩ = some (.int .i64 n) := (((Below.refl _ wr).alloc (Nat.le_refl _) _).cell (p := ⟨B, k, none⟩) (blk_lt (hgr _ _ _ _ HB.out))).trans hcn
      have F1 := Aside0.mk hf1
      have F2 := Aside0.mk hf2
      have BA := Aside0.mk hBA
      have HN := Aside0.mk hn
      have HS := Aside0.mk hstep
      have HF := Aside0.mk hf
      clear hf1 hf2 hBA f1 f2 hn hstep hf e1 e2 hcs hgr hb
      have hq1 : (0 : Int) ≤ (k : Int) := by omega
      have hq2 : (k : Int) < 3 := by omega
      cases hd : decide (y.lo ≤ n ∧ n ≤ y.hi) with
      | true =>
        have HD := Aside0.mk hd
        clear hd
        go_wp2
        go_quiet ((go_at_call 27; exact Calls.quiet_of_same (to1_b y.lo y.hi n b1 b2 _ true HD.out (by simpa [drewN_heap] using F1.out) (by simpa [drewN_heap] using F2.out))))
        go_wp2
        go_roundw
        case rel => exact ⟨k + 1, by omega, by simp, by rw [← HF.out, HS.out, if_pos (of_decide_eq_true HD.out)], pw_below_drewN BA.out _⟩
        case measure => simp [intOf]; omega
      | false =>
        have HD := Aside0.mk hd
        clear hd
        go_wp2
        go_quiet ((go_at_call 27; exact Calls.quiet_of_same (to1_b y.lo y.hi n b1 b2 _ false HD.out (by simpa [drewN_heap] using F1.out) (by simpa [drewN_heap] using F2.out))))
        go_wp2
        go_ret
        refine ⟨?_, pw_below_drewN BA.out _⟩
        rw [← HF.out, HS.out, if_neg (of_decide_eq_false HD.out)]
        rfl
    · obtain rfl : k = l.length := by omega
      have HF := Aside0.mk hf
      clear hf
      go_wp2
      go_ret
      refine ⟨?_, hb⟩
      rw [← HF.out, List.drop_length]
      rfl
/-- What code.Check tells of an operation. -/
def chk (k a b c : Int) : Int := match insl.find? (fun p => p.2.1 == k) with
  | some p => firstErr p.2.2 [a, b, c]
  | none => 14
theorem insl_three : ∀ p ∈ insl, p.2.2.length ≤ 3 := by decide
theorem insl_key : ∀ p ∈ insl, ∀ q ∈ insl, p.2.1 = q.2.1 → p = q := by decide
theorem chk_some {k a b c : Int} {p : Nat × Int × List Ask} (hp : p ∈ insl) (e : p.2.1 = k) : chk k a b c = firstErr p.2.2 [a, b, c] := by
  unfold chk
  cases h : insl.find? (fun p => p.2.1 == k) with
  | none => exact absurd (List.find?_eq_none.1 h p hp) (by simp [e])
  | some q =>
    have h1 := List.find?_some h
    have h2 := insl_key p hp q (List.mem_of_find?_eq_some h) (by rw [e]; simp at h1; exact h1.symm)
    rw [h2]
theorem chk_none {k a b c : Int} (h : ∀ p ∈ insl, p.2.1 ≠ k) : chk k a b c = 14 := by
  unfold chk
  rw [List.find?_eq_none.2 (fun p hp => by simpa using h p hp)]
theorem res_some {w : World} {k : Int} {v : Value} {ok : Bool} {p : Nat × Int × List Ask} (hp : p ∈ insl) (e : p.2.1 = k) (h : Res w k v ok) : ok = true ∧ RowV w p.2.2 v := by
  rcases h with ⟨q, hq, f, ho, hr⟩ | ⟨h, _⟩
  · have := insl_key p hp q hq (by rw [e, f])
    rw [this]
    exact ⟨ho, hr⟩
  · exact absurd e (h p hp)
theorem res_none {w : World} {k : Int} {v : Value} {ok : Bool} (hno : ∀ p ∈ insl, p.2.1 ≠ k) (h : Res w k v ok) : ok = false ∧ v = .slice none 0 0 := by
  rcases h with ⟨q, hq, f, _⟩ | ⟨_, ho, hv⟩
  · exact absurd f (hno q hq)
  · exact ⟨ho, hv⟩
set_option maxRecDepth 100000 in
set_option maxHeartbeats 4000000 in
theorem check_c (k a b c : Int) (w : World) : Calls Try.prog 11 #[.agg #[.int .i64 k, .int .i64 a, .int .i64 b, .int .i64 c]] w fun e w' => e = .returned (.int .i64 (chk k a b c)) ∧ Below w.heap.size w w' := by
  have hBA : Below w.heap.size w (w.alloc (.cells #[.int .i64 k, .int .i64 a, .int .i64 b, .int .i64 c] 23)) := (Below.refl _ _).alloc (Nat.le_refl _) _
  have hKA := blk_new w (.cells #[.int .i64 k, .int .i64 a, .int .i64 b, .int .i64 c] 23)
  have BA := Aside0.mk hBA
  have KA := Aside0.mk hKA
  clear hBA hKA
  by_cases hp : ∃ p ∈ insl, p.2.1 = k
  · obtain ⟨p, hp, he⟩ := hp
    have HP := Aside0.mk hp
    have HE := Aside0.mk he
    have hc := chk_some (a := a) (b := b) (c := c) hp he
    have HC := Aside0.mk hc
    clear hp he hc
    go_enter Try.func11, Try.ntmps11
    go_wp2_with (first | (go_at_call 22; refine (asks_c k _).mono ?_; rintro e w1 ⟨v, ok, rfl, hres, hb⟩; obtain ⟨rfl, hrow⟩ := res_some HP.out HE.out hres; obtain ⟨g, cs, rfl, hg, hr2⟩ := hrow; have hrow : RowV w1 p.2.2 (.slice (some ⟨g, 0, none⟩) p.2.2.length p.2.2.length) := ⟨g, cs, rfl, hg, hr2⟩; have HR := Aside0.mk hrow; have B1 := Aside0.mk (BA.out.trans (hb.mono (by simp))); have hk1 := (hb.block _ (blk_lt KA.out)).trans KA.out; have c1 : w1.cell? ⟨w.heap.size, 1, none⟩ = some (.int .i64 a) := (blk_cell hk1 1).trans rfl; have c2 : w1.cell? ⟨w.heap.size, 2, none⟩ = some (.int .i64 b) := (blk_cell hk1 2).trans rfl; have c3 : w1.cell? ⟨w.heap.size, 3, none⟩ = some (.int .i64 c) := (blk_cell hk1 3).trans rfl; clear hres hb hk1 hrow hg hr2) | (go_at_call 23; refine (checked_c p.2.2 _ a b c w1.heap.size _ (insl_three _ HP.out) (HR.out.grow (grow_below ((Below.refl _ _).alloc (Nat.le_refl _) _))) (blk_new w1 _)).mono ?_; rintro e w2 ⟨rfl, hb2⟩; have B2 := Aside0.mk (B1.out.trans (((Below.refl _ _).alloc (Nat.le_refl _) _).trans (hb2.mono (by simp)) |>.mono B1.out.size)); clear hb2))
    go_ret
    exact ⟨by rw [HC.out]; rfl, B2.out⟩
  · have hno : ∀ p ∈ insl, p.2.1 ≠ k := fun p h e => hp ⟨p, h, e⟩
    have HN := Aside0.mk hno
    have hc := chk_none (a := a) (b := b) (c := c) hno
    have HC := Aside0.mk hc
    clear hp hno hc
    go_enter Try.func11, Try.ntmps11
    go_wp2_with (go_at_call 22; refine (asks_c k _).mono ?_; rintro e w1 ⟨v, ok, rfl, hres, hb⟩; obtain ⟨rfl, rfl⟩ := res_none HN.out hres; have B1 := Aside0.mk (BA.out.trans (hb.mono (by simp))); clear hres hb)
    go_ret
    exact ⟨by rw [HC.out]; rfl, B1.out⟩
set_option maxRecDepth 100000 in
set_option maxHeartbeats 4000000 in
theorem plain_c (k a b c : Int) (w : World) : Calls Try.prog 17 #[.agg #[.int .i64 k, .int .i64 a, .int .i64 b, .int .i64 c]] w fun e w' => e = .returned (.bool (decide (1 ≤ k ∧ k ≤ 10))) ∧ Below w.heap.size w w' := by
  obtain ⟨r, hr⟩ : ∃ r, decide (1 ≤ k ∧ k ≤ 10) = r := ⟨_, rfl⟩
  rw [hr]
  have H27 := Aside0.mk (to1_b 1 10 k (w.heap.size + 1) (w.heap.size + 1 + 1) (((w.alloc (.cells #[.int .i64 k, .int .i64 a, .int .i64 b, .int .i64 c] 23)).alloc (.cells #[.int .i64 1] 3)).alloc (.cells #[.int .i64 10] 3)).drew r hr
    (blk_drew (blk_alloc (blk_new_at _ _ _ (by simp)) _)) (blk_drew (blk_new_at _ _ _ (by simp))))
  have HB := Aside0.mk (show Below w.heap.size w (((w.alloc (.cells #[.int .i64 k, .int .i64 a, .int .i64 b, .int .i64 c] 23)).alloc (.cells #[.int .i64 1] 3)).alloc (.cells #[.int .i64 10] 3)).drew from below_drew1 ((((Below.refl _ _).alloc (Nat.le_refl _) _).alloc (by simp) _).alloc (by simp; omega) _))
  clear hr
  go_enter Try.func17, Try.ntmps17
  go_wp2
  go_region_with (first | (go_at_call 26; refine (to_c _ _ _).mono ?_; rintro e w' ⟨rfl, rfl⟩) | (go_at_call 27; refine H27.out.mono ?_; rintro e w' ⟨rfl, rfl⟩))
  all_goals go_wp2
  all_goals go_ret
  all_goals exact ⟨rfl, HB.out⟩
end Go.Proofs.Ytemgiamajhfehaa.Chk
