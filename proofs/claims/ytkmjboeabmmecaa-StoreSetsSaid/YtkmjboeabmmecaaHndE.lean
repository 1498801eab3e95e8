/- The store: who lives. Conditions: those of each lemma. -/
import Derived.Test.YtkmjboeabmmecaaHndD
import Derived.Shelf.SlSortCmp.NoneTotal
import Derived.Test.YtkmjboeabmmecaaSortLay
namespace Go.Proofs.Ytkmjboeabmmecaa.MAll
open Go.RowKit Go.Proofs.YtkmjboeabmmecaaW.PrintWords Go.Proofs.YtkmjboeabmmecaaW.PrintLast Go.Proofs.YtkmjboeabmmecaaW.PrintMore
attribute [local go_sem] max2_int min2_int max_two min_two max_three min_three max_four min_four
set_option linter.unusedVariables false
set_option linter.unusedSimpArgs false
attribute [local go_sem] Oper.semAt_some
open Go.Shelf Go.Proofs.Ytkmjboeabmmecaa
def cmpI (a b : Int) : Int := if a < b then -1 else if a > b then 1 else 0
set_option maxHeartbeats 2000000 in
theorem isNaN_c (a : Int) (w : World) : Calls Try.prog 101 #[.int .i64 a] w fun e w' => e = .returned (.bool false) ∧ w' = w := by
  go_enter Try.func101, Try.ntmps101
  go_wp2
  go_ret
  exact ⟨by simp, rfl⟩
set_option maxHeartbeats 4000000 in
theorem cmp_c (a b : Int) (w : World) : Calls Try.prog 68 #[.int .i64 a, .int .i64 b] w fun e w' => e = .returned (.int .i64 (cmpI a b)) ∧ w' = w := by
  unfold cmpI
  by_cases h1 : a < b
  · rw [if_pos h1]
    have d1 : decide (a < b) = true := decide_eq_true h1
    clear h1
    go_enter Try.func68, Try.ntmps68
    go_wp2_with (go_at_call 101; refine (isNaN_c _ _).mono ?_; rintro e w' ⟨rfl, rfl⟩)
    go_ret
    exact ⟨rfl, rfl⟩
  · rw [if_neg h1]
    have d1 : decide (a < b) = false := decide_eq_false h1
    by_cases h2 : a > b
    · rw [if_pos h2]
      have d2 : decide (b < a) = true := decide_eq_true h2
      clear h1 h2
      go_enter Try.func68, Try.ntmps68
      go_wp2_with (go_at_call 101; refine (isNaN_c _ _).mono ?_; rintro e w' ⟨rfl, rfl⟩)
      go_ret
      exact ⟨rfl, rfl⟩
    · rw [if_neg h2]
      have d2 : decide (b < a) = false := decide_eq_false h2
      clear h1 h2
      go_enter Try.func68, Try.ntmps68
      go_wp2_with (go_at_call 101; refine (isNaN_c _ _).mono ?_; rintro e w' ⟨rfl, rfl⟩)
      go_ret
      exact ⟨rfl, rfl⟩
def live1.T1 : Bool × List (List Nat × List Nat) := (true, [([], []), ([0], [0]), ([1], [1]), ([], []), ([2, 3], [2, 3]), ([4], [4]), ([5], [5]), ([6], [6]), ([], []), ([8], [8]), ([9], [9]), ([], []), ([10, 11], [10, 11]), ([12], [12]), ([13], [13]), ([14], [14]), ([7, 15], [7, 15]), ([16, 16, 0, 1, 2, 3, 4, 5, 6, 7, 8, 9, 10, 11, 12, 13, 14, 15, 16], [16])])
def live1.B1 : List Nat := [0, 1, 3, 0, 15, 31, 63, 127, 0, 256, 768, 0, 3840, 7936, 16128, 32512, 65535, 131071]
theorem live1.tab1 : rtab .any (opsOf Try.f67 1) = live1.T1 := by kernel_rfl
theorem live1.bits1 : waitsOk live1.T1.2 live1.B1 = true := by kernel_rfl
set_option maxRecDepth 100000 in
set_option maxHeartbeats 4000000 in
theorem closure_c (X : World) (g0 n c x y : Nat) (ad : Addr) (sx sy : Int) (h0 : X.cell? ⟨g0, 0, none⟩ = some (.slice (some ad) n c)) (hxn : x < n) (hyn : y < n) (hx : X.cell? ⟨(ad.add (x * 8)).block, (ad.add (x * 8)).off + 2, none⟩ = some (.int .i64 sx)) (hy : X.cell? ⟨(ad.add (y * 8)).block, (ad.add (y * 8)).off + 2, none⟩ = some (.int .i64 sy)) :
    Calls Try.prog 67 #[.int .i64 (x : Int), .int .i64 (y : Int), .pointer (some ⟨g0, 0, none⟩)] X fun e w' => e = .returned (.int .i64 (cmpI sx sy)) ∧ w' = X.drewN 1 := by
  have p1 : (x : Int) < (n : Int) := by omega
  have p2 : (y : Int) < (n : Int) := by omega
  go_enter Try.func67, Try.ntmps67
  go_upto_region 1 with (fail)
  refine start_ (n := 18) (S := fun w' => w'.cell? ⟨g0, 0, none⟩ = some (.slice (some ad) n c) ∧ w'.cell? ⟨(ad.add (x * 8)).block, (ad.add (x * 8)).off + 2, none⟩ = some (.int .i64 sx) ∧ w'.cell? ⟨(ad.add (y * 8)).block, (ad.add (y * 8)).off + 2, none⟩ = some (.int .i64 sy)) (ds := []) (bA 18 0) (by kernel_rfl) rfl rfl ⟨h0, hx, hy⟩ (fun hHeld => ?_)
  refine with_tabW live1.tab1 live1.bits1 (fun HT_ HW_ => ?_)
  refine pure_ (i := 0) (N := some 6) (v := ?_) (a' := ?_) (bA 18 1) rfl rfl (an_ HT_.out) (fun _ _ _ h => h) (Or.inl ⟨by rfl, ?_⟩) ?_ ?_
  rotate_left
  · intro w'; go_simp; with_reducible rfl
  rotate_left
  · simp only [Act.put, q1, q2, q3, i64_w, i32_w]
    rfl
  refine pure_ (i := 1) (N := some 7) (v := ?_) (a' := ?_) (bA 18 3) rfl rfl (an_ HT_.out) (fun _ _ _ h => h) (Or.inl ⟨by rfl, ?_⟩) ?_ ?_
  rotate_left
  · intro w'; go_simp; with_reducible rfl
  rotate_left
  · simp only [Act.put, q1, q2, q3, i64_w, i32_w]
    rfl
  refine take_ (i := 2) (N := some 8) (v := ?_) (a' := ?_) (bA 18 7) rfl rfl (tw_ HT_.out HW_.out) (fun _ _ _ h => h) (Or.inl ⟨by rfl, ?_⟩) hHeld ?_ ?_
  rotate_left
  · rintro w' ⟨s0, s1, s2⟩; go_simp; with_reducible rfl
  rotate_left
  · simp only [Act.put, q1, q2, q3, i64_w, i32_w]
    rfl
  refine pure_ (i := 3) (N := some 9) (v := ?_) (a' := ?_) (bA 18 15) rfl rfl (an_ HT_.out) (fun _ _ _ h => h) (Or.inl ⟨by rfl, ?_⟩) ?_ ?_
  rotate_left
  · intro w'; go_simp; with_reducible rfl
  rotate_left
  · simp only [Act.put, q1, q2, q3, i64_w, i32_w]
    rfl
  refine pure_ (i := 4) (N := some 10) (v := ?_) (a' := ?_) (bA 18 31) rfl rfl (an_ HT_.out) (fun _ _ _ h => h) (Or.inl ⟨by rfl, ?_⟩) ?_ ?_
  rotate_left
  · intro w'; go_simp; with_reducible rfl
  rotate_left
  · simp only [Act.put, q1, q2, q3, i64_w, i32_w]
    rfl
  refine pure_ (i := 5) (N := some 11) (v := ?_) (a' := ?_) (bA 18 63) rfl rfl (an_ HT_.out) (fun _ _ _ h => h) (Or.inl ⟨by rfl, ?_⟩) ?_ ?_
  rotate_left
  · intro w'; go_simp; with_reducible rfl
  rotate_left
  · simp only [Act.put, q1, q2, q3, i64_w, i32_w]
    rfl
  refine pure_ (i := 6) (N := some 12) (v := ?_) (a' := ?_) (bA 18 127) rfl rfl (an_ HT_.out) (fun _ _ _ h => h) (Or.inl ⟨by rfl, ?_⟩) ?_ ?_
  rotate_left
  · intro w'; go_simp; with_reducible rfl
  rotate_left
  · simp only [Act.put, q1, q2, q3, i64_w, i32_w]
    rfl
  refine take_ (i := 7) (N := some 13) (v := ?_) (a' := ?_) (bA 18 255) rfl rfl (tw_ HT_.out HW_.out) (fun _ _ _ h => h) (Or.inl ⟨by rfl, ?_⟩) hHeld ?_ ?_
  rotate_left
  · rintro w' ⟨s0, s1, s2⟩; go_simp; with_reducible rfl
  rotate_left
  · simp only [Act.put, q1, q2, q3, i64_w, i32_w]
    rfl
  refine pure_ (i := 8) (N := some 14) (v := ?_) (a' := ?_) (bA 18 511) rfl rfl (an_ HT_.out) (fun _ _ _ h => h) (Or.inl ⟨by rfl, ?_⟩) ?_ ?_
  rotate_left
  · intro w'; go_simp; with_reducible rfl
  rotate_left
  · simp only [Act.put, q1, q2, q3, i64_w, i32_w]
    rfl
  refine pure_ (i := 9) (N := some 15) (v := ?_) (a' := ?_) (bA 18 1023) rfl rfl (an_ HT_.out) (fun _ _ _ h => h) (Or.inl ⟨by rfl, ?_⟩) ?_ ?_
  rotate_left
  · intro w'; go_simp; with_reducible rfl
  rotate_left
  · simp only [Act.put, q1, q2, q3, i64_w, i32_w]
    rfl
  refine take_ (i := 10) (N := some 16) (v := ?_) (a' := ?_) (bA 18 2047) rfl rfl (tw_ HT_.out HW_.out) (fun _ _ _ h => h) (Or.inl ⟨by rfl, ?_⟩) hHeld ?_ ?_
  rotate_left
  · rintro w' ⟨s0, s1, s2⟩; go_simp; with_reducible rfl
  rotate_left
  · simp only [Act.put, q1, q2, q3, i64_w, i32_w]
    rfl
  refine pure_ (i := 11) (N := some 17) (v := ?_) (a' := ?_) (bA 18 4095) rfl rfl (an_ HT_.out) (fun _ _ _ h => h) (Or.inl ⟨by rfl, ?_⟩) ?_ ?_
  rotate_left
  · intro w'; go_simp; with_reducible rfl
  rotate_left
  · simp only [Act.put, q1, q2, q3, i64_w, i32_w]
    rfl
  refine pure_ (i := 12) (N := some 18) (v := ?_) (a' := ?_) (bA 18 8191) rfl rfl (an_ HT_.out) (fun _ _ _ h => h) (Or.inl ⟨by rfl, ?_⟩) ?_ ?_
  rotate_left
  · intro w'; go_simp; with_reducible rfl
  rotate_left
  · simp only [Act.put, q1, q2, q3, i64_w, i32_w]
    rfl
  refine pure_ (i := 13) (N := some 19) (v := ?_) (a' := ?_) (bA 18 16383) rfl rfl (an_ HT_.out) (fun _ _ _ h => h) (Or.inl ⟨by rfl, ?_⟩) ?_ ?_
  rotate_left
  · intro w'; go_simp; with_reducible rfl
  rotate_left
  · simp only [Act.put, q1, q2, q3, i64_w, i32_w]
    rfl
  refine pure_ (i := 14) (N := some 20) (v := ?_) (a' := ?_) (bA 18 32767) rfl rfl (an_ HT_.out) (fun _ _ _ h => h) (Or.inl ⟨by rfl, ?_⟩) ?_ ?_
  rotate_left
  · intro w'; go_simp; with_reducible rfl
  rotate_left
  · simp only [Act.put, q1, q2, q3, i64_w, i32_w]
    rfl
  refine take_ (i := 15) (N := some 21) (v := ?_) (a' := ?_) (bA 18 65535) rfl rfl (tw_ HT_.out HW_.out) (fun _ _ _ h => h) (Or.inl ⟨by rfl, ?_⟩) hHeld ?_ ?_
  rotate_left
  · rintro w' ⟨s0, s1, s2⟩; go_simp; with_reducible rfl
  rotate_left
  · simp only [Act.put, q1, q2, q3, i64_w, i32_w]
    rfl
  refine one_ (i := 16) (N := some 22) (bA 18 131071) rfl rfl (one_of HT_.out (by kernel_rfl)) (by decide) (fun K hK => ?_)
  refine goes_ Try.func68 (by kernel_rfl) rfl #[.int .i64 sx, .int .i64 sy] (by rfl) rfl rfl (by (try simp only [List.map_toArray, List.map_cons, List.map_nil]); first | done | rfl) ?_
  with_reducible refine (cmp_c sx sy _).mono ?_
  rintro e w1 ⟨rfl, rfl⟩
  refine ⟨_, rfl, ?_⟩
  refine hK.out _ _ ⟨h0, hx, hy⟩ (fun hHeld => ?_)
  clear hK K
  refine norm_ (a' := ?_) ?_ ?_
  rotate_left
  · show Act.put _ (some 22) _ = _
    simp only [Act.put, q1, q2, q3, i64_w, i32_w]
    rfl
  refine pure_ (i := 17) (N := some 5) (v := ?_) (a' := ?_) (bA 18 262143) rfl rfl (an_ HT_.out) (fun _ _ _ h => h) (Or.inl ⟨by rfl, ?_⟩) ?_ ?_
  rotate_left
  · intro w'; go_simp; with_reducible rfl
  rotate_left
  · simp only [Act.put, q1, q2, q3, i64_w, i32_w]
    rfl
  refine done_ (done_of HT_.out (by kernel_rfl)) ?_
  go_wp2
  go_ret
  exact ⟨rfl, rfl⟩
theorem reps_int {w : World} {b : Nat} {ok : Nat → Prop} {xs : List Int} {cs : List Value} : Reps ((Kd.int .i64).M w b ok) 1 xs cs → cs = xs.map (Value.int .i64) := by
  rintro ⟨hl, h⟩
  rw [Nat.mul_one] at hl
  apply List.ext_getElem (by simpa using hl)
  intro j h1 h2
  have h3 := h j _ (List.getElem?_eq_getElem (by omega))
  rw [Nat.mul_one] at h3
  have h4 : (List.drop j cs).take 1 = [cs[j]] := by rw [List.drop_eq_getElem_cons h1]; rfl
  rw [h4] at h3
  simpa using (List.cons.inj h3).1
theorem int_reps (w : World) (b : Nat) (ok : Nat → Prop) (xs : List Int) : Reps ((Kd.int .i64).M w b ok) 1 xs (xs.map (Value.int .i64)) := by
  refine ⟨by simp, fun j p hj => ?_⟩
  obtain ⟨h1, rfl⟩ := List.getElem?_eq_some_iff.mp hj
  rw [Nat.mul_one]
  have h4 : (List.drop j (xs.map (Value.int .i64))).take 1 = [Value.int .i64 xs[j]] := by rw [List.drop_eq_getElem_cons (by simpa using h1)]; simp
  exact h4
def Row3 (w : World) (g cap : Nat) (xs : List Int) : Prop := ∃ cur, w.heap[g]? = some (.cells cur 3 (0, 0)) ∧ cur.size = cap ∧ xs.length ≤ cap ∧ cap ≤ maxLen ∧ ∀ (j : Nat) (x : Int), xs[j]? = some x → cur[j]? = some (.int .i64 x)
theorem R_row3 {w : World} {b : Nat} {v : Value} {xs : List Int} (h : Kd.R (Kd.int .i64) 3 w b (fun _ => True) v xs) (hne : xs ≠ []) : ∃ g cap, v = .slice (some ⟨g, 0, none⟩) xs.length cap ∧ b ≤ g ∧ Row3 w g cap xs := by
  obtain ⟨_, inner, hown, hr⟩ := h
  obtain rfl := reps_int hr
  rcases hown.2 with ⟨_, h0⟩ | ⟨g, cap, cur, rfl, hg, hh, hn, hm, hs, ht⟩
  · exact absurd (List.eq_nil_of_length_eq_zero h0) hne
  · have hs' : cur.size = cap := by rw [hs]; exact Nat.mul_one _
    refine ⟨g, cap, rfl, hg, cur, hh, hs', hn, hm, fun j x hj => ?_⟩
    have hjl := (List.getElem?_eq_some_iff.mp hj).1
    have e1 : (cur.toList.take (xs.length * 1))[j]? = (xs.map (Value.int .i64))[j]? := congrArg (fun l : List Value => l[j]?) ht
    rw [List.getElem?_take_of_lt (by omega), List.getElem?_map, hj] at e1
    rw [← Array.getElem?_toList]
    exact e1
theorem row3_R {w : World} {b g cap : Nat} {xs : List Int} (h : Row3 w g cap xs) (hb : b ≤ g) : Kd.R (Kd.int .i64) 3 w b (fun _ => True) (.slice (some ⟨g, 0, none⟩) xs.length cap) xs := by
  obtain ⟨cur, hh, hs, hn, hm, hc⟩ := h
  refine ⟨fun _ _ => trivial, xs.map (Value.int .i64), ⟨by rw [List.length_map]; exact (Nat.mul_one _).symm, .inr ⟨g, cap, cur, rfl, hb, hh, hn, hm, by rw [hs]; exact (Nat.mul_one _).symm, ?_⟩⟩, int_reps _ _ _ _⟩
  rw [show (Kd.int .i64).sz = 1 from rfl, Nat.mul_one]
  apply List.ext_getElem?
  intro j
  by_cases hj : j < xs.length
  · rw [List.getElem?_take_of_lt hj, Array.getElem?_toList, hc j _ (List.getElem?_eq_getElem hj), List.getElem?_map, List.getElem?_eq_getElem hj]; rfl
  · rw [List.getElem?_eq_none (by rw [List.length_take]; omega), List.getElem?_eq_none (by rw [List.length_map]; omega)]
theorem Row3.cell {w : World} {g cap : Nat} {xs : List Int} (h : Row3 w g cap xs) {j : Nat} {x : Int} (hj : xs[j]? = some x) : w.cell? ⟨g, j, none⟩ = some (.int .i64 x) ∧ w.frozen? ⟨g, j, none⟩ = false := by
  obtain ⟨cur, hh, hs, hn, hm, hc⟩ := h
  exact ⟨(blk_cell hh j).trans (hc j x hj), blk_frozen hh j⟩
theorem Row3.put {w : World} {g cap : Nat} {xs : List Int} (h : Row3 w g cap xs) (j : Nat) (x : Int) : Row3 (w.setCell ⟨g, j, none⟩ (.int .i64 x)) g cap (xs.set j x) := by
  obtain ⟨cur, hh, hs, hn, hm, hc⟩ := h
  refine ⟨_, blk_put hh j _ rfl, by simpa using hs, by simpa using hn, hm, fun i y hi => ?_⟩
  have hil := (List.getElem?_eq_some_iff.mp hi).1
  rw [List.length_set] at hil
  by_cases e : j = i
  · subst e
    rw [List.getElem?_set_self hil] at hi
    cases hi
    simp only [Array.getElem?_setIfInBounds_self]
    simp; omega
  · rw [List.getElem?_set_ne e] at hi
    rw [Array.getElem?_setIfInBounds_ne e]
    exact hc i y hi
theorem Row3.below {w w' : World} {g cap : Nat} {xs : List Int} (h : Row3 w g cap xs) (hb : Below w.heap.size w w') : Row3 w' g cap xs := by
  obtain ⟨cur, hh, r⟩ := h
  exact ⟨cur, blk_below hh hb, r⟩
abbrev SubL (p : Nat → Prop) : Type := { i : Nat // p i }
def encL {p : Nat → Prop} (x : SubL p) : Value := .int .i64 (x.val : Int)
theorem sub_list {p : Nat → Prop} : ∀ (l : List Nat), (∀ x, x ∈ l → p x) → ∃ d : List (SubL p), d.map (·.val) = l
  | [], _ => ⟨[], rfl⟩
  | x :: l, h => by
    obtain ⟨d, hd⟩ := sub_list l (fun y hy => h y (List.mem_cons_of_mem _ hy))
    exact ⟨⟨x, h x List.mem_cons_self⟩ :: d, by simp [hd]⟩
theorem row3_holds {p : Nat → Prop} [Inhabited (SubL p)] {w : World} {g cap : Nat} {l : List Nat} {d : List (SubL p)} (hd : d.map (·.val) = l) (h : Row3 w g cap (l.map (fun i : Nat => (i : Int)))) : Sort.Holds encL w g 0 d.toArray := by
  intro j hj
  have hj' : j < d.length := by simpa using hj
  have e : d.toArray[j]! = d[j] := by simp [hj']
  rw [Nat.zero_add, e]
  refine h.cell ?_
  subst hd
  simp [hj']
theorem heap_sortWorld {p : Nat → Prop} [Inhabited (SubL p)] (w : World) (g m : Nat) (d : Array (SubL p)) (os : Array Obj) (k : Nat) (hk : k < w.heap.size) (hne : k ≠ g) : (sortWorld encL w g 0 m d os).heap[k]? = w.heap[k]? := by
  unfold sortWorld Sort.grow Sort.putRow Sort.mapBlock Sort.ahead
  simp only
  rw [Array.getElem?_append_left (by simpa using hk), Array.getElem?_modify, if_neg (Ne.symm hne)]
theorem below_sort {p : Nat → Prop} [Inhabited (SubL p)] (w : World) (b g m : Nat) (d : Array (SubL p)) (os : Array Obj) (hb : b ≤ g) (hg : g < w.heap.size) : Below b w (sortWorld encL w g 0 m d os) := by
  refine ⟨rfl, rfl, rfl, ?_, fun k hk => heap_sortWorld w g m d os k (by omega) (by omega)⟩
  unfold sortWorld Sort.grow Sort.putRow Sort.mapBlock Sort.ahead
  simp
theorem row3_sort {p : Nat → Prop} [Inhabited (SubL p)] {w : World} {g cap m : Nat} {xs : List Int} {d : Array (SubL p)} {os : Array Obj} (h : Row3 w g cap xs) (hs : d.size = xs.length) : Row3 (sortWorld encL w g 0 m d os) g cap (d.toList.map (fun x => (x.val : Int))) := by
  obtain ⟨cur, hh, hcs, hn, hm, hc⟩ := h
  have hg := blk_lt hh
  refine ⟨Sort.putCells encL 0 d cur, ?_, by simpa [Sort.putCells] using hcs, by simpa [hs] using hn, hm, fun j x hj => ?_⟩
  · unfold sortWorld Sort.grow Sort.putRow Sort.mapBlock Sort.ahead
    simp only
    rw [Array.getElem?_append_left (by simpa using hg), Array.getElem?_modify, if_pos rfl, hh]; rfl
  · obtain ⟨h1, rfl⟩ := List.getElem?_eq_some_iff.mp hj
    have h2 : j < d.size := by simpa using h1
    have h3 : j < cur.size := by omega
    unfold Sort.putCells
    rw [Array.getElem?_mapIdx, Array.getElem?_eq_getElem h3, Option.map_some, if_pos ⟨Nat.zero_le _, by omega⟩]
    simp [encL, h2]
theorem sort_one {p : Nat → Prop} [Inhabited (SubL p)] (rk : Nat → Int) (hd : ∀ i j, p i → p j → rk i = rk j → i = j) {d : List (SubL p)} {d' : Array (SubL p)} {l : List Nat} (hl : d.map (·.val) = l)
    (hp : Sort.PermIn 0 d.toArray.size d.toArray d') (hs : Sort.SortedIn (ltOf fun x y : SubL p => cmpI (rk x.val) (rk y.val)) 0 d.toArray.size d') :
    d'.toList.map (·.val) = l.mergeSort (fun x y => decide (rk x ≤ rk y)) := by
  obtain ⟨h1, _, h3⟩ := hp
  have e1 : d'.extract 0 d.toArray.size = d' := by rw [← h1]; exact Array.extract_size
  rw [e1, Array.extract_size] at h3
  have hall : ∀ x ∈ l, p x := by rintro x hx; rw [← hl] at hx; obtain ⟨y, _, rfl⟩ := List.mem_map.mp hx; exact y.2
  have hpm : (d'.toList.map (·.val)).Perm l := by rw [← hl]; exact h3.map _
  refine List.Perm.eq_of_pairwise (le := fun x y => rk x ≤ rk y) ?_ ?_ ?_ (hpm.trans (List.mergeSort_perm _ _).symm)
  · intro a c ha hc h4 h5
    exact hd a c (hall _ (hpm.mem_iff.mp ha)) (hall _ ((List.mergeSort_perm _ _).mem_iff.mp hc)) (Int.le_antisymm h4 h5)
  · rw [List.pairwise_map, List.pairwise_iff_getElem]
    intro i j hi hj hij
    have h6 := hs i j (Nat.zero_le _) hij (by rw [← h1]; simpa using hj)
    have hi' : i < d'.size := by simpa using hi
    have hj' : j < d'.size := by simpa using hj
    rw [getElem!_pos d' i hi', getElem!_pos d' j hj'] at h6
    unfold ltOf at h6
    rw [decide_eq_false_iff_not] at h6
    simp only [cmpI] at h6
    simp only [Array.getElem_toList]
    by_cases h7 : rk d'[j].val < rk d'[i].val
    · rw [if_pos h7] at h6; omega
    · omega
  · have h8 := List.pairwise_mergeSort (le := fun x y => decide (rk x ≤ rk y)) (fun a b c h1 h2 => by simp only [decide_eq_true_eq] at *; omega) (fun a b => by simp only [Bool.or_eq_true, decide_eq_true_eq]; omega) l
    exact h8.imp (fun h => by simpa using h)
theorem swo_cmpI {p : Nat → Prop} (rk : Nat → Int) : Sort.SWO (ltOf fun x y : SubL p => cmpI (rk x.val) (rk y.val)) := by
  have e : ∀ x y : SubL p, ltOf (fun x y : SubL p => cmpI (rk x.val) (rk y.val)) x y = decide (rk x.val < rk y.val) := by
    intro x y
    refine decide_eq_decide.mpr ?_
    show cmpI (rk x.val) (rk y.val) < 0 ↔ _
    unfold cmpI
    by_cases h : rk x.val < rk y.val
    · rw [if_pos h]; simp [h]
    · rw [if_neg h]; by_cases h2 : rk x.val > rk y.val
      · rw [if_pos h2]; simp [h]
      · rw [if_neg h2]; simp [h]
  refine ⟨fun x => ?_, fun x y z => ?_, fun x y z => ?_⟩
  · rw [e]; simp
  · rw [e, e, e]; simp only [decide_eq_true_eq]; omega
  · rw [e, e, e]; simp only [decide_eq_false_iff_not]; omega
def plN (ds : List S82) (i : Nat) : List Nat := (List.range i).filter (fun j : Nat => (rd_T82 ds (j : Int)).f0 == 1)
def plc (ds : List S82) (i : Nat) : List Int := (plN ds i).map (fun j : Nat => (j : Int))
theorem plc_yes {ds : List S82} {i : Nat} (h : (rd_T82 ds (i : Int)).f0 = 1) : plc ds (i + 1) = plc ds i ++ [(i : Int)] := by simp [plc, plN, List.range_succ, h]
theorem plc_no {ds : List S82} {i : Nat} (h : ¬ (rd_T82 ds (i : Int)).f0 = 1) : plc ds (i + 1) = plc ds i := by simp [plc, plN, List.range_succ, h]
theorem plc_len (ds : List S82) (i : Nat) : (plc ds i).length ≤ i := by
  unfold plc plN; rw [List.length_map]; exact Nat.le_trans (List.length_filter_le _ _) (by simp)
def lvN (ds : List S82) : List Nat := (plN ds ds.length).mergeSort (fun x y : Nat => decide ((rd_T82 ds (x : Int)).f2.f0 ≤ (rd_T82 ds (y : Int)).f2.f0))
def lvd (ds : List S82) : List Int := (lvN ds).map (fun i : Nat => pk (i : Int) (rd_T82 ds (i : Int)).f1)
def Apart82 (ds : List S82) : Prop := ∀ i j : Nat, (i < ds.length ∧ (rd_T82 ds (i : Int)).f0 = 1) → (j < ds.length ∧ (rd_T82 ds (j : Int)).f0 = 1) → (rd_T82 ds (i : Int)).f2.f0 = (rd_T82 ds (j : Int)).f2.f0 → i = j
theorem plN_mem {ds : List S82} {x : Nat} (h : x ∈ plN ds ds.length) : x < ds.length ∧ (rd_T82 ds (x : Int)).f0 = 1 := by
  unfold plN at h
  simpa using h
theorem lvN_len (ds : List S82) : (lvN ds).length = (plc ds ds.length).length := by unfold lvN plc; simp
theorem lvN_mem {ds : List S82} {x : Nat} (h : x ∈ lvN ds) : x < ds.length ∧ (rd_T82 ds (x : Int)).f0 = 1 := plN_mem ((List.mergeSort_perm _ _).mem_iff.mp h)
theorem lvN_nil {ds : List S82} (h : plc ds ds.length = []) : lvN ds = [] := List.eq_nil_of_length_eq_zero (by rw [lvN_len, h]; rfl)
theorem sortC {p : Nat → Prop} [Inhabited (SubL p)] (cf : SubL p → SubL p → Int) (hO : Sort.SWO (ltOf cf)) (cb : Array Value) (g cap : Nat) (d : Array (SubL p)) (w : World)
    (hcmp : CmpLays1 Try.prog 67 cb encL cf g 0 d.size w) (hH : Sort.Holds encL w g 0 d) (hblk : g < w.heap.size) (hsz : d.size < 4611686018427387904) :
    Calls Try.prog 66 #[.slice (some ⟨g, 0, none⟩) d.size cap, .func (.func 67) #[] cb] w fun e w' => e = .returned (.tuple #[]) ∧ ∃ d' n os, Sort.PermIn 0 d.size d d' ∧ Sort.SortedIn (ltOf cf) 0 d.size d' ∧ w' = sortWorld encL w g 0 n d' os :=
  Any.slices_SortFunc (ρ := Go.Proofs.Ytkmjboeabmmecaa.sortF_ren) Go.Proofs.Ytkmjboeabmmecaa.sortF encL (fun _ => rfl) cf hO 67 cb g 0 cap d w (enters_of Try.func67 (by kernel_rfl) rfl) hcmp hH hblk hsz
theorem cmpL {p : Nat → Prop} [Inhabited (SubL p)] {w : World} {b g g0 n c size : Nat} {ad : Addr} {rk : Nat → Int} (hg : b ≤ g) (hgl : g < w.heap.size) (hg0 : g0 < b) (h0 : w.cell? ⟨g0, 0, none⟩ = some (.slice (some ad) n c))
    (hp : ∀ x, p x → x < n ∧ (ad.add (x * 8)).block < b ∧ w.cell? ⟨(ad.add (x * 8)).block, (ad.add (x * 8)).off + 2, none⟩ = some (.int .i64 (rk x))) : CmpLays1 Try.prog 67 #[.pointer (some ⟨g0, 0, none⟩)] encL (fun x y : SubL p => cmpI (rk x.val) (rk y.val)) g 0 size w := by
  intro m os dk _ x y
  have hb := below_sort w b g m dk os hg hgl
  have hk : ∀ z : SubL p, (sortWorld encL w g 0 m dk os).cell? ⟨(ad.add (z.val * 8)).block, (ad.add (z.val * 8)).off + 2, none⟩ = some (.int .i64 (rk z.val)) := fun z => (hb.cell (p := ⟨(ad.add (z.val * 8)).block, (ad.add (z.val * 8)).off + 2, none⟩) (hp z.val z.2).2.1).trans (hp z.val z.2).2.2
  exact (closure_c _ g0 n c x.val y.val ad _ _ ((hb.cell (p := ⟨g0, 0, none⟩) hg0).trans h0) (hp x.val x.2).1 (hp y.val y.2).1 (hk x) (hk y)).mono fun e w' h => ⟨h.1, 1, #[], by rw [h.2, Sort.grow_empty]⟩
theorem sortC0 (p : Option Addr) (cap : Nat) (fv : Value) (w : World) : Calls Try.prog 66 #[.slice p 0 cap, fv] w fun e w' => e = .returned (.tuple #[]) ∧ w' = w :=
  AnyF.slices_SortFunc_none (ρ := Go.Proofs.Ytkmjboeabmmecaa.sortF_ren) { Go.Proofs.Ytkmjboeabmmecaa.sortF with } p cap fv w
theorem sortP {ds : List S82} {W0 wr : World} {ad : Addr} {c g g0 cap : Nat} (hd : Apart82 ds) (hC : Kd.C k82 W0 (some ad) ds.length ds) (hne : plc ds ds.length ≠ []) (hrow : Row3 wr g cap (plc ds ds.length)) (hg : W0.heap.size ≤ g) (hB : Below W0.heap.size W0 wr) (hg0 : g0 < W0.heap.size) (h0 : W0.cell? ⟨g0, 0, none⟩ = some (.slice (some ad) ds.length c)) (hbig : ds.length ≤ 1000000) :
    Calls Try.prog 66 #[.slice (some ⟨g, 0, none⟩) (plc ds ds.length).length cap, .func (.func 67) #[] #[.pointer (some ⟨g0, 0, none⟩)]] wr fun e w' => e = .returned (.tuple #[]) ∧ Row3 w' g cap ((lvN ds).map (fun i : Nat => (i : Int))) ∧ Below W0.heap.size wr w' := by
  obtain ⟨d, hdl⟩ := sub_list (p := fun x => x < ds.length ∧ (rd_T82 ds (x : Int)).f0 = 1) (plN ds ds.length) (fun x hx => plN_mem hx)
  have hgl : g < wr.heap.size := by obtain ⟨cur, hh, _⟩ := hrow; exact blk_lt hh
  have hlen : d.toArray.size = (plc ds ds.length).length := by unfold plc; rw [List.length_map, ← hdl]; simp
  cases d with
  | nil => exact absurd (by unfold plc; rw [← hdl]; rfl) hne
  | cons x0 d =>
    haveI : Inhabited (SubL fun x => x < ds.length ∧ (rd_T82 ds (x : Int)).f0 = 1) := ⟨x0⟩
    have hcmp := cmpL (p := fun x => x < ds.length ∧ (rd_T82 ds (x : Int)).f0 = 1) (size := (x0 :: d).toArray.size) (c := c) (rk := fun x => (rd_T82 ds (x : Int)).f2.f0) hg hgl hg0 ((hB.cell (p := ⟨g0, 0, none⟩) hg0).trans h0) (fun x hx => by
      obtain ⟨ad', A7, c7, e7, hx0, hx1, hx2, _⟩ := at_T82 hC (x : Int) (by omega) (by omega)
      cases e7
      rw [Int.toNat_natCast] at hx2
      have hl := World.block_lt_of_cell? W0 _ hx2
      exact ⟨hx.1, hl, (hB.cell (p := ⟨(ad.add (x * 8)).block, (ad.add (x * 8)).off + 2, none⟩) hl).trans hx2⟩)
    rw [← hlen]
    refine (sortC _ (swo_cmpI fun x => (rd_T82 ds (x : Int)).f2.f0) _ g cap _ wr hcmp (row3_holds hdl hrow) hgl (by rw [hlen]; have := plc_len ds ds.length; omega)).mono ?_
    rintro e w' ⟨rfl, d', n, os, hp, hs, rfl⟩
    refine ⟨rfl, ?_, below_sort wr _ g n d' os hg hgl⟩
    have h1 := sort_one (fun x => (rd_T82 ds (x : Int)).f2.f0) hd hdl hp hs
    have h2 := row3_sort (m := n) (d := d') (os := os) hrow (by rw [← hlen]; exact hp.1)
    have h3 : d'.toList.map (fun x => (x.val : Int)) = (lvN ds).map (fun i : Nat => (i : Int)) := by rw [show lvN ds = _ from h1.symm, List.map_map]; rfl
    rw [h3] at h2
    exact h2
def lvM (ds : List S82) (j : Nat) : List Int := (lvd ds).take j ++ ((lvN ds).map (fun i : Nat => (i : Int))).drop j
theorem lvd_len (ds : List S82) : (lvd ds).length = (lvN ds).length := by unfold lvd; rw [List.length_map]
theorem lvM_len (ds : List S82) (j : Nat) : (lvM ds j).length = (lvN ds).length := by
  unfold lvM; rw [List.length_append, List.length_take, List.length_drop, List.length_map, lvd_len]; omega
theorem lvM_zero (ds : List S82) : lvM ds 0 = (lvN ds).map (fun i : Nat => (i : Int)) := by simp [lvM]
theorem lvM_all (ds : List S82) : lvM ds (lvN ds).length = lvd ds := by
  unfold lvM
  rw [List.take_of_length_le (by rw [lvd_len]; exact Nat.le_refl _), List.drop_eq_nil_of_le (by rw [List.length_map]; exact Nat.le_refl _), List.append_nil]
theorem lvM_at {ds : List S82} {j : Nat} (hj : j < (lvN ds).length) : (lvM ds j)[j]? = some (((lvN ds).getD j 0 : Nat) : Int) := by
  unfold lvM
  rw [List.getElem?_append_right (by rw [List.length_take]; omega), List.length_take, lvd_len, Nat.min_eq_left (Nat.le_of_lt hj), List.getElem?_drop, List.getElem?_map, Nat.sub_self, Nat.add_zero, List.getElem?_eq_getElem hj, List.getD_eq_getElem?_getD, List.getElem?_eq_getElem hj]
  rfl
theorem lvM_set {ds : List S82} {j : Nat} (hj : j < (lvN ds).length) : (lvM ds j).set j (pk (((lvN ds).getD j 0 : Nat) : Int) (rd_T82 ds (((lvN ds).getD j 0 : Nat) : Int)).f1) = lvM ds (j + 1) := by
  apply List.ext_getElem?
  intro i
  have hl := lvd_len ds
  by_cases e : j = i
  · subst e
    rw [List.getElem?_set_self (by rw [lvM_len]; exact hj)]
    unfold lvM
    rw [List.getElem?_append_left (by rw [List.length_take]; omega), List.getElem?_take_of_lt (by omega)]
    unfold lvd
    rw [List.getElem?_map, List.getElem?_eq_getElem hj, List.getD_eq_getElem?_getD, List.getElem?_eq_getElem hj]
    rfl
  · rw [List.getElem?_set_ne e]
    unfold lvM
    rcases Nat.lt_or_gt_of_ne e with h | h
    · rw [List.getElem?_append_right (by rw [List.length_take]; omega), List.length_take, lvd_len, List.getElem?_drop]
      by_cases hi : i < (lvN ds).length
      · rw [List.getElem?_append_right (by rw [List.length_take]; omega), List.length_take, lvd_len, List.getElem?_drop]
        congr 1; omega
      · rw [List.getElem?_eq_none (by rw [List.length_map]; omega), List.getElem?_eq_none (by rw [List.length_append, List.length_take, List.length_drop, List.length_map]; omega)]
    · rw [List.getElem?_append_left (by rw [List.length_take]; omega), List.getElem?_append_left (by rw [List.length_take]; omega), List.getElem?_take_of_lt h, List.getElem?_take_of_lt (by omega)]
theorem w1_of {i : Nat} (h : i ≤ 1000000) : wrap64 ((i : Int) + 1) = ((i + 1 : Nat) : Int) := by unfold wrap64; omega
set_option maxRecDepth 100000 in
set_option maxHeartbeats 8000000 in
theorem sLive {W : World} {b : Nat} {P : Nat → Prop} {A : Option Addr} {c : Nat} {ds : List S82} {last ser : Int} (hbig : ds.length ≤ 1000000) (hd : Apart82 ds) (hV : Kd.V k82 82 W b P (.slice A ds.length c) ds) :
    Calls Try.prog 29 #[.agg #[.slice A ds.length c, .int .i64 last, .int .i64 ser]] W fun e W' => ∃ v0, e = .returned v0 ∧ Kd.R (Kd.int .i64) 3 W' W.heap.size (fun _ => True) v0 (lvd ds) ∧ Below W.heap.size W W' := by
  obtain ⟨W0, hW0⟩ : ∃ W0, W.alloc (.cells #[.slice A ds.length c, .int .i64 last, .int .i64 ser] 26) = W0 := ⟨_, rfl⟩
  have HB0 := Aside0.mk (show Below W.heap.size W W0 by rw [← hW0]; exact (Below.refl W.heap.size W).alloc (Nat.le_refl _) _)
  have HZ := Aside0.mk (show W0.heap.size = W.heap.size + 1 by rw [← hW0]; simp)
  have B0 := Aside0.mk (show W0.heap[W.heap.size]? = some (.cells #[.slice A ds.length c, .int .i64 last, .int .i64 ser] 26 (0, 0)) by rw [← hW0]; exact blk_new W _)
  have HW := Aside0.mk hW0
  have HC0 := Aside0.mk (unV (Kd.V_below hV HB0.out))
  have HBIG := Aside0.mk hbig
  have HD := Aside0.mk hd
  clear hV hW0 hbig hd
  go_enter Try.func29, Try.ntmps29
  go_wp2
  rw [HW.out]
  go_loopg [3, 12] (ds.length + 1) (fun kq v3 v12 w' => ∃ i : Nat, v12 = .int .i64 (i : Int) ∧ Aside0 (i ≤ ds.length ∧ kq + i = ds.length + 1) ∧ Aside0 (Kd.R (Kd.int .i64) 3 w' W0.heap.size (fun _ => True) v3 (plc ds i)) ∧ Aside0 (Below W0.heap.size W0 w'))
  case atStart => exact ⟨0, by simp, ⟨by omega⟩, ⟨Kd.R_nil _ _ _ _ _⟩, ⟨Below.refl _ _⟩⟩
  case round =>
    obtain ⟨i, rfl, HI, HR, HB⟩ := hrel
    cases gk with
    | zero => exact absurd HI.out (by omega)
    | succ k1 =>
      by_cases c5 : i < ds.length
      · have c5b := decide_eq_true (p := (i : Int) < (ds.length : Int)) (by omega)
        have hi0 : (0 : Int) ≤ (i : Int) := by omega
        have hi1 : (i : Int) < (ds.length : Int) := by omega
        have hB1 := Aside0.mk (blk_below B0.out (HB.out.mono (by have := HZ.out; omega)))
        obtain ⟨A', c', e', hlc, hC⟩ := HC0.out
        cases e'
        obtain ⟨ad, A7, c7, e7, hx0, hx1, hx2, hx3, hx4, hx5, hx6, hx7, hl7, hi7⟩ := at_T82 hC (i : Int) hi0 hi1
        cases e7
        clear hl7 hi7 hC
        rw [Int.toNat_natCast] at hx0 hx1 hx2 hx3 hx4 hx5 hx6 hx7
        replace hx0 := (HB.out.cell (World.block_lt_of_cell? W0 _ hx0)).trans hx0
        replace hx1 := (HB.out.cell (World.block_lt_of_cell? W0 _ hx1)).trans hx1
        replace hx2 := (HB.out.cell (World.block_lt_of_cell? W0 _ hx2)).trans hx2
        replace hx3 := (HB.out.cell (World.block_lt_of_cell? W0 _ hx3)).trans hx3
        replace hx4 := (HB.out.cell (World.block_lt_of_cell? W0 _ hx4)).trans hx4
        replace hx5 := (HB.out.cell (World.block_lt_of_cell? W0 _ hx5)).trans hx5
        replace hx6 := (HB.out.cell (World.block_lt_of_cell? W0 _ hx6)).trans hx6
        replace hx7 := (HB.out.cell (World.block_lt_of_cell? W0 _ hx7)).trans hx7
        replace hi0 := eq_true hi0
        replace hi1 := eq_true hi1
        have L1 := Aside0.mk (plc_len ds i)
        by_cases c7 : (rd_T82 ds (i : Int)).f0 = 1
        · have c7b : ((rd_T82 ds (i : Int)).f0 == 1) = true := beq_iff_eq.mpr c7
          have C7 := Aside0.mk c7
          have C5 := Aside0.mk c5
          clear c7 c5
          go_wp2_with (((with_reducible refine gate_builtin (b := .append) (xs := #[.tmp 20, .tmp 22]) rfl ?_); at_builtin; refine Kd.R_append (Kd.int .i64) (w0 := W0) W0.heap.size rfl (.tmp 20) (.tmp 22) 27 3 (.int .i64 0) 8 rfl Try.underlying27 info3 rfl (by decide) (by omega) u3 (plc ds i) (i : Int) [.int .i64 (i : Int)] (fun _ => True) (fun _ => False) rfl (by rw [World.size_alloc]; rfl) ?aP (fun _ hk => hk.elim) (fun _ _ => trivial) ?aO ?aB ?aS ?aL ?_; (case aP => exact rfl); (case aB => exact HB.out.alloc HB.out.size _); (case aO => exact Kd.R_alloc HR.out _); (case aS => have := HB.out.size; simp; omega); (case aL => have := L1.out; have := HBIG.out; have := C5.out; omega); intro v23 w11 ho hb hg hat; have HO := Aside0.mk ho; have HBN := Aside0.mk hb; clear ho hb hg hat))
          go_roundg k1
          case measure => omega
          case rel =>
            refine ⟨i + 1, by first | rfl | exact congrArg _ (w1_of (by have := HBIG.out; have := C5.out; omega)), ⟨by have := HI.out; have := C5.out; omega⟩, ⟨?_⟩, HBN⟩
            rw [plc_yes C7.out]
            exact HO.out
        · have c7b : ((rd_T82 ds (i : Int)).f0 == 1) = false := beq_eq_false_iff_ne.mpr c7
          have C7 := Aside0.mk c7
          have C5 := Aside0.mk c5
          clear c7 c5
          go_wp2
          go_roundg k1
          case measure => omega
          case rel =>
            refine ⟨i + 1, by first | rfl | exact congrArg _ (w1_of (by have := HBIG.out; have := C5.out; omega)), ⟨by have := HI.out; have := C5.out; omega⟩, ⟨?_⟩, ⟨HB.out.alloc HB.out.size _⟩⟩
            rw [plc_no C7.out]
            exact Kd.R_alloc HR.out _
      · have c5b := decide_eq_false (p := (i : Int) < (ds.length : Int)) (by omega)
        obtain rfl : i = ds.length := by have := HI.out; omega
        clear c5
        have B1 := Aside0.mk (blk_below B0.out (HB.out.mono (by have := HZ.out; omega)))
        by_cases c6 : plc ds ds.length = []
        · obtain ⟨A3, n3, rfl⟩ := Kd.R_slice HR.out
          have C6 := Aside0.mk c6
          have HR0 := HR.out
          rw [c6] at HR0
          have HRN := Aside0.mk HR0
          rw [c6]
          clear c6 HR0
          go_wp2_with (go_at_call 66; refine (sortC0 _ _ _ _).mono ?_; rintro e w1 ⟨rfl, hw1⟩; subst w1)
          go_loopg [30] 1 (fun kq v30 w' => v30 = .int .i64 0 ∧ Aside0 (Below W.heap.size W w') ∧ Aside0 (kq = 1) ∧ Aside0 (Kd.R (Kd.int .i64) 3 w' W0.heap.size (fun _ => True) (.slice A3 0 n3) []))
          case atStart => exact ⟨rfl, ⟨HB0.out.trans (HB.out.mono (by have := HZ.out; omega))⟩, ⟨rfl⟩, HRN⟩
          case round =>
            obtain ⟨rfl, HBW, HK, HRW⟩ := hrel
            go_wp2
            go_ret
            refine ⟨_, rfl, ?_, HBW.out⟩
            have e0 : lvd ds = [] := by unfold lvd; rw [lvN_nil C6.out]; rfl
            rw [e0]
            exact Kd.R_lower HRW.out (by have := HZ.out; omega)
        · obtain ⟨g, cap, rfl, hg, hrow⟩ := R_row3 HR.out c6
          obtain ⟨A', c', e', hlc, hC⟩ := HC0.out
          cases e'
          obtain ⟨x0, hx0⟩ := List.exists_mem_of_ne_nil _ (show plN ds ds.length ≠ [] from fun h => c6 (by unfold plc; rw [h]; rfl))
          have hx0l := (plN_mem hx0).1
          obtain ⟨ad, _, _, rfl, _⟩ := at_T82 hC (x0 : Int) (by omega) (by omega)
          clear hx0 hx0l
          have HS := Aside0.mk (sortP (c := c) HD.out hC c6 hrow hg HB.out (g0 := W.heap.size) (by have := HZ.out; omega) ((blk_cell B0.out 0).trans rfl) HBIG.out)
          have HCC := Aside0.mk hC
          have HG := Aside0.mk hg
          have LN := Aside0.mk (lvN_len ds)
          clear hrow hC c6 hg hlc
          go_wp2_with (go_at_call 66; refine HS.out.mono ?_; rintro e w1 ⟨rfl, hr1, hb1⟩; have HR1 := Aside0.mk hr1; have HB2 := Aside0.mk (HB.out.trans hb1); clear hr1 hb1)
          go_loopg [30] ((plc ds ds.length).length + 1) (fun kq v30 w' => ∃ j : Nat, v30 = .int .i64 (j : Int) ∧ Aside0 (j ≤ (plc ds ds.length).length ∧ kq + j = (plc ds ds.length).length + 1) ∧ Aside0 (Row3 w' g cap (lvM ds j)) ∧ Aside0 (Below W0.heap.size W0 w'))
          case atStart => exact ⟨0, by simp, ⟨by omega⟩, ⟨by rw [lvM_zero]; exact HR1.out⟩, HB2⟩
          case round =>
            obtain ⟨j, rfl, HJ, HRW, HB3⟩ := hrel
            cases gk with
            | zero => exact absurd HJ.out (by omega)
            | succ k2 =>
              by_cases c9 : j < (plc ds ds.length).length
              · have c8 : j < (lvN ds).length := by have := LN.out; omega
                have c8b := decide_eq_true (p := (j : Int) < ((plc ds ds.length).length : Int)) (by have := LN.out; omega)
                have j1 : (j : Int) < ((plc ds ds.length).length : Int) := by have := LN.out; omega
                obtain ⟨pl, hpl⟩ : ∃ p, p = (lvN ds).getD j 0 := ⟨_, rfl⟩
                have hc1 := HRW.out.cell (lvM_at c8)
                rw [← hpl] at hc1
                obtain ⟨hc1, hf1⟩ := hc1
                have hm := lvN_mem (show pl ∈ lvN ds by rw [hpl, List.getD_eq_getElem?_getD, List.getElem?_eq_getElem c8]; exact List.getElem_mem c8)
                have p1 : (pl : Int) < (ds.length : Int) := by have := hm.1; omega
                obtain ⟨ad', A7, c7, e7, hx0, hx1, _⟩ := at_T82 HCC.out (pl : Int) (by omega) p1
                cases e7
                rw [Int.toNat_natCast] at hx1
                replace hx1 := (HB3.out.cell (World.block_lt_of_cell? W0 _ hx1)).trans hx1
                have B3 := Aside0.mk (blk_below B0.out (HB3.out.mono (by have := HZ.out; omega)))
                have b0 := (blk_cell B3.out 0).trans rfl
                have HPL := Aside0.mk hpl
                have C8 := Aside0.mk c8
                have L9 := Aside0.mk (plc_len ds ds.length)
                have C9 := Aside0.mk c9
                clear hx0 hm hpl c8 c9
                go_wp2_with (go_at_call 69; refine (pack_c _ _ _).mono ?_; rintro e w4 ⟨rfl, hw4⟩; subst w4)
                go_roundg k2
                case measure => omega
                case rel =>
                  refine ⟨j + 1, by first | rfl | exact congrArg _ (w1_of (by have := HBIG.out; have := C9.out; have := L9.out; omega)), ⟨by have := HJ.out; have := C9.out; omega⟩, ⟨?_⟩, ⟨HB3.out.setCell (p := ⟨g, j, none⟩) HG.out _⟩⟩
                  rw [← lvM_set C8.out, ← HPL.out]
                  exact HRW.out.put j _
              · obtain rfl : j = (plc ds ds.length).length := by have := HJ.out; omega
                clear c9
                go_wp2
                go_ret
                refine ⟨_, rfl, ?_, HB0.out.trans (HB3.out.mono (by have := HZ.out; omega))⟩
                have h9 := HRW.out
                rw [← LN.out, lvM_all] at h9
                have h10 := row3_R h9 HG.out
                rw [show (lvd ds).length = (plc ds ds.length).length by rw [← LN.out]; simp [lvd]] at h10
                exact Kd.R_lower h10 (by have := HZ.out; omega)
end Go.Proofs.Ytkmjboeabmmecaa.MAll
