/- For every three bytes: so many generations on from a handle is the same slot so many generations on, or none. -/
import Derived.Test.YthkioofmomdhoaaPHandleWalkx1
import Derived.OpenShut
import Derived.Laws.BitsLemmas
namespace Go.Proofs.Ythkioofmomdhoaa.Pure
open Go.RowKit Go.Proofs.Ythkioofmomdhoaa.PHandleWalk Go.Proofs.YthkioofmomdhoaaW.PrintWords Go.Proofs.YthkioofmomdhoaaW.PrintLast

/-- The handle of a slot and a generation. -/
def pk (a b : Int) : Int := if 0 ≤ a ∧ a < 24 ∧ 0 ≤ b ∧ b ≤ 9 then 1 + a + 32 * b else 0
/-- Is it a handle? -/
def vl (h : Int) : Bool := decide (1 ≤ h ∧ h ≤ 320 ∧ (h - 1) % 32 < 24)

theorem w64_in (n : Int) (h : -9223372036854775808 ≤ n ∧ n ≤ 9223372036854775807) : wrap64 n = n := by unfold wrap64; omega
theorem u64_in (n : Int) : IntKind.u64.wrap n = n % 18446744073709551616 := by simp [IntKind.wrap, IntKind.bits, IntKind.signed]
theorem and31 (x : Int) (h₀ : 0 ≤ x) (h₁ : x ≤ 9223372036854775807) : Go.bits .and .i64 x 31 = x % 32 :=
  bits_mask .i64 63 (by decide) (fun n a b => by rw [IntKind.wrap_i64]; omega) 5 (by decide) x h₀ (by omega)
theorem or32 (x y : Int) (h₀ : 0 ≤ x) (h : x % 32 = 0) (h₁ : x ≤ 1000) (hy : 0 ≤ y) (hy₁ : y < 32) : Go.bits .or .i64 x y = x + y :=
  bits_join .i64 63 (by decide) (fun n a b => by rw [IntKind.wrap_i64]; omega) 5 x y h₀ (by omega) (by omega) hy (by omega) (by omega)

theorem within_f (a m : Int) (ha : -9223372036854775808 ≤ a ∧ a ≤ 9223372036854775807) (hm : 0 ≤ m ∧ m ≤ 100) : handle_within.f a m = some (decide (0 ≤ a ∧ a ≤ m)) := by
  unfold handle_within.f
  rw [u64_in, u64_in]
  congr 1
  rw [decide_eq_decide]
  omega

theorem pack_f (a b : Int) (ha : -9223372036854775808 ≤ a ∧ a ≤ 9223372036854775807) (hb : -9223372036854775808 ≤ b ∧ b ≤ 9223372036854775807) :
    handle_Pack.f a b = some (pk a b) := by
  unfold handle_Pack.f pk
  rw [within_f a 23 ha (by omega)]; simp only [Option.bind_some]
  by_cases h1 : 0 ≤ a ∧ a ≤ 23
  · rw [decide_eq_true h1, if_pos rfl, within_f b 9 hb (by omega)]; simp only [Option.bind_some]
    by_cases h2 : 0 ≤ b ∧ b ≤ 9
    · rw [decide_eq_true h2, if_pos rfl, if_pos (by omega), w64_in (b * 32) (by omega), or32 (b * 32) a (by omega) (by omega) (by omega) (by omega) (by omega), w64_in _ (by omega)]
      congr 1; omega
    · rw [decide_eq_false h2, if_neg (by decide), if_neg (by omega)]
  · rw [decide_eq_false h1, if_neg (by decide), if_neg (by omega)]

theorem pk_eq (h : Int) (h0 : 0 < h) : (pk ((h - 1) % 32) ((h - 1) / 32) == h) = vl h := by
  unfold pk vl
  rw [Bool.eq_iff_iff, beq_iff_eq, decide_eq_true_iff]
  split <;> omega

theorem valid_f (h : Int) (hh : -9223372036854775808 ≤ h ∧ h ≤ 9223372036854775807) : handle_Valid.f h = some (vl h) := by
  unfold handle_Valid.f
  by_cases h0 : h > 0
  · rw [if_pos h0, w64_in (h - 1) (by omega), and31 (h - 1) (by omega) (by omega), pack_f _ _ (by omega) (by omega)]
    simp only [Option.bind_some]
    rw [pk_eq h h0]
  · rw [if_neg h0]
    unfold vl
    rw [decide_eq_false (by omega)]

theorem slot_f (h : Int) (hh : -9223372036854775808 ≤ h ∧ h ≤ 9223372036854775807) : handle_Slot.f h = some (if vl h = true then (h - 1) % 32 else -1) := by
  unfold handle_Slot.f handle_part.f
  rw [valid_f h hh]; simp only [Option.bind_some]
  by_cases v : vl h = true
  · rw [if_pos v, if_pos v]; simp only [Option.bind_some]
    unfold vl at v; rw [decide_eq_true_iff] at v
    rw [w64_in (h - 1) (by omega), and31 _ (by omega) (by omega)]
  · rw [if_neg v, if_neg v]; rfl

theorem gen_f (h : Int) (hh : -9223372036854775808 ≤ h ∧ h ≤ 9223372036854775807) : handle_Gen.f h = some (if vl h = true then (h - 1) / 32 else -1) := by
  unfold handle_Gen.f handle_part.f
  rw [valid_f h hh]; simp only [Option.bind_some]
  by_cases v : vl h = true
  · rw [if_pos v, if_pos v]; simp only [Option.bind_some]
    unfold vl at v; rw [decide_eq_true_iff] at v
    rw [w64_in (h - 1) (by omega)]
  · rw [if_neg v, if_neg v]; rfl

theorem next_f (h : Int) (hh : -9223372036854775808 ≤ h ∧ h ≤ 9223372036854775807) : handle_Next.f h = some (if vl h = true then pk ((h - 1) % 32) ((h - 1) / 32 + 1) else 0) := by
  unfold handle_Next.f
  rw [slot_f h hh, gen_f h hh]; simp only [Option.bind_some]
  by_cases v : vl h = true
  · rw [if_pos v, if_pos v, if_pos v]
    rw [w64_in _ (by omega), pack_f _ _ (by omega) (by omega)]; rfl
  · rw [if_neg v, if_neg v, if_neg v]
    rw [w64_in _ (by omega), pack_f _ _ (by omega) (by omega)]; rfl

theorem shown_f : mortmainlaw01_shown.f = some true := by
  unfold mortmainlaw01_shown.f
  rw [pack_f 2 1 (by decide) (by decide), slot_f 35 (by decide), gen_f 35 (by decide), valid_f 35 (by decide), valid_f 0 (by decide), valid_f 25 (by decide),
    next_f 35 (by decide), pack_f 2 9 (by decide) (by decide), slot_f (-1) (by decide)]
  have e : pk 2 9 = 291 := by decide
  simp only [Option.bind_some]
  rw [e, next_f 291 (by decide)]
  decide

theorem vl_iff (h : Int) : vl h = true ↔ 1 ≤ h ∧ h ≤ 320 ∧ (h - 1) % 32 < 24 := by unfold vl; rw [decide_eq_true_iff]

theorem walk_l0 (s g n : Int) (hs : 0 ≤ s ∧ s < 24) (hg : 0 ≤ g ∧ g < 10) (hn : 0 ≤ n ∧ n < 12) (d : Nat) : ∀ (k : Nat) (i : Int), 0 ≤ i → i ≤ n → n - i = d → d < k →
    mortmainlaw01_HandleWalk.l0 k s g n (pk s (g + i)) i = some true := by
  induction d with
  | zero =>
    intro k i h0 h1 hd hk
    obtain ⟨k, rfl⟩ : ∃ m, k = m + 1 := ⟨k - 1, by omega⟩
    obtain rfl : i = n := by omega
    simp only [mortmainlaw01_HandleWalk.l0]
    rw [if_neg (by omega), w64_in _ (by omega), shown_f]
    simp only [Option.bind_some]
    by_cases h : g + i > 9
    · rw [if_pos h, if_pos (by unfold pk; rw [if_neg (by omega)])]
    · have hp : vl (pk s (g + i)) = true ∧ (pk s (g + i) - 1) % 32 = s ∧ 0 ≤ pk s (g + i) ∧ pk s (g + i) ≤ 400 := by
        rw [vl_iff]; unfold pk; rw [if_pos (by omega)]; omega
      rw [if_neg h, pack_f _ _ (by omega) (by omega)]; simp only [Option.bind_some]
      rw [if_pos trivial, slot_f _ (by omega)]; simp only [Option.bind_some]
      rw [if_pos hp.1, if_pos hp.2.1]
  | succ d ih =>
    intro k i h0 h1 hd hk
    obtain ⟨k, rfl⟩ : ∃ m, k = m + 1 := ⟨k - 1, by omega⟩
    have hb : 0 ≤ pk s (g + i) ∧ pk s (g + i) ≤ 400 := by unfold pk; split <;> omega
    simp only [mortmainlaw01_HandleWalk.l0]
    rw [if_pos (by omega), next_f _ (by omega)]; simp only [Option.bind_some]
    have e : (if vl (pk s (g + i)) = true then pk ((pk s (g + i) - 1) % 32) ((pk s (g + i) - 1) / 32 + 1) else 0) = pk s (g + (i + 1)) := by
      by_cases h : g + i ≤ 9
      · have e1 : pk s (g + i) = 1 + s + 32 * (g + i) := by unfold pk; rw [if_pos (by omega)]
        have e2 : vl (1 + s + 32 * (g + i)) = true := by rw [vl_iff]; omega
        rw [e1, if_pos e2]
        have e3 : (1 + s + 32 * (g + i) - 1) % 32 = s := by omega
        have e4 : (1 + s + 32 * (g + i) - 1) / 32 + 1 = g + (i + 1) := by omega
        rw [e3, e4]
      · have e1 : pk s (g + i) = 0 := by unfold pk; rw [if_neg (by omega)]
        have e2 : pk s (g + (i + 1)) = 0 := by unfold pk; rw [if_neg (by omega)]
        rw [e1, e2]; decide
    rw [e, w64_in (i + 1) (by omega)]
    exact ih k (i + 1) (by omega) (by omega) (by omega) (by omega)

theorem HandleWalk : mortmainlaw01_HandleWalk.Pure := by
  intro a b c wa wb wc
  have ha := bounds_u8 wa
  have hb := bounds_u8 wb
  have hc := bounds_u8 wc
  refine ⟨13, ?_⟩
  unfold mortmainlaw01_HandleWalk.f
  rw [w64_in a (by omega), w64_in b (by omega), w64_in c (by omega), Int.tmod_eq_emod_of_nonneg ha.1, Int.tmod_eq_emod_of_nonneg hb.1, Int.tmod_eq_emod_of_nonneg hc.1,
    pack_f _ _ (by omega) (by omega)]
  simp only [Option.bind_some]
  have := walk_l0 (a % 24) (b % 10) (c % 12) (by omega) (by omega) (by omega) (c % 12).toNat 13 0 (by omega) (by omega) (by omega) (by omega)
  rw [Int.add_zero] at this
  exact this

end Go.Proofs.Ythkioofmomdhoaa.Pure
