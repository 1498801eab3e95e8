/- For every slot, generation and number: what is packed is valid and unpacked as it was, and what is unpacked is packed as it was. -/
import Derived.Test.YthkioofmomdhoaaPHandleBackx1
import Derived.OpenShut
import Derived.Laws.BitsLemmas
namespace Go.Proofs.Ythkioofmomdhoaa.Pure
open Go.RowKit Go.Proofs.Ythkioofmomdhoaa.PHandleBack Go.Proofs.YthkioofmomdhoaaW.PrintWords Go.Proofs.YthkioofmomdhoaaW.PrintLast

/-- The handle of a slot and a generation. -/
def pk (a b : Int) : Int := if 0 ≤ a ∧ a < 24 ∧ 0 ≤ b ∧ b ≤ 9 then 1 + a + 32 * b else 0
/-- Is it a handle? -/
def vl (h : Int) : Bool := decide (1 ≤ h ∧ h ≤ 320 ∧ (h - 1) % 32 < 24)

theorem w64_in (n : Int) (h : -9223372036854775808 ≤ n ∧ n ≤ 9223372036854775807) : wrap64 n = n := by unfold wrap64; omega
theorem u64_in (n : Int) : IntKind.u64.wrap n = n % 18446744073709551616 := by simp [IntKind.wrap, IntKind.bits, IntKind.signed]
theorem and31 (x : Int) (h₀ : 0 ≤ x) (h₁ : x ≤ 9223372036854775807) : Go.bits .and .i64 x 31 = x % 32 :=
  bits_mask .i64 63 (by decide) (fun n a b => by rw [IntKind.wrap_i64]; omega) 5 (by decide) x h₀ (by omega)
theorem or32 (x y : Int) (h₀ : 0 ≤ x) (h : x % 32 = 0) (h₁ : x ≤ 1000) (hy : 0 ≤ y) (hy₁ : y < 32) : Go.bits .or .i64 x y = x + y :=
  bits_join .i64 63 (by decide) (fun n a b => by rw [IntKind.wrap_i64]; omega) 5 x y h₀ (by omega) (by omega) hy (by omega) (by omega)

theorem within_f (a m : Int) (ha : -9223372036854775808 ≤ a ∧ a ≤ 9223372036854775807) (hm : 0 ≤ m ∧ m ≤ 100) : handle_within.f a m = some (decide (0 ≤ a ∧ a ≤ m)) := by
  unfold handle_within.f
  rw [u64_in, u64_in]
  congr 1
  rw [decide_eq_decide]
  omega

theorem pack_f (a b : Int) (ha : -9223372036854775808 ≤ a ∧ a ≤ 9223372036854775807) (hb : -9223372036854775808 ≤ b ∧ b ≤ 9223372036854775807) :
    handle_Pack.f a b = some (pk a b) := by
  unfold handle_Pack.f pk
  rw [within_f a 23 ha (by omega)]; simp only [Option.bind_some]
  by_cases h1 : 0 ≤ a ∧ a ≤ 23
  · rw [decide_eq_true h1, if_pos rfl, within_f b 9 hb (by omega)]; simp only [Option.bind_some]
    by_cases h2 : 0 ≤ b ∧ b ≤ 9
    · rw [decide_eq_true h2, if_pos rfl, if_pos (by omega), w64_in (b * 32) (by omega), or32 (b * 32) a (by omega) (by omega) (by omega) (by omega) (by omega), w64_in _ (by omega)]
      congr 1; omega
    · rw [decide_eq_false h2, if_neg (by decide), if_neg (by omega)]
  · rw [decide_eq_false h1, if_neg (by decide), if_neg (by omega)]

theorem pk_eq (h : Int) (h0 : 0 < h) : (pk ((h - 1) % 32) ((h - 1) / 32) == h) = vl h := by
  unfold pk vl
  rw [Bool.eq_iff_iff, beq_iff_eq, decide_eq_true_iff]
  split <;> omega

theorem valid_f (h : Int) (hh : -9223372036854775808 ≤ h ∧ h ≤ 9223372036854775807) : handle_Valid.f h = some (vl h) := by
  unfold handle_Valid.f
  by_cases h0 : h > 0
  · rw [if_pos h0, w64_in (h - 1) (by omega), and31 (h - 1) (by omega) (by omega), pack_f _ _ (by omega) (by omega)]
    simp only [Option.bind_some]
    rw [pk_eq h h0]
  · rw [if_neg h0]
    unfold vl
    rw [decide_eq_false (by omega)]

theorem slot_f (h : Int) (hh : -9223372036854775808 ≤ h ∧ h ≤ 9223372036854775807) : handle_Slot.f h = some (if vl h = true then (h - 1) % 32 else -1) := by
  unfold handle_Slot.f handle_part.f
  rw [valid_f h hh]; simp only [Option.bind_some]
  by_cases v : vl h = true
  · rw [if_pos v, if_pos v]; simp only [Option.bind_some]
    unfold vl at v; rw [decide_eq_true_iff] at v
    rw [w64_in (h - 1) (by omega), and31 _ (by omega) (by omega)]
  · rw [if_neg v, if_neg v]; rfl

theorem gen_f (h : Int) (hh : -9223372036854775808 ≤ h ∧ h ≤ 9223372036854775807) : handle_Gen.f h = some (if vl h = true then (h - 1) / 32 else -1) := by
  unfold handle_Gen.f handle_part.f
  rw [valid_f h hh]; simp only [Option.bind_some]
  by_cases v : vl h = true
  · rw [if_pos v, if_pos v]; simp only [Option.bind_some]
    unfold vl at v; rw [decide_eq_true_iff] at v
    rw [w64_in (h - 1) (by omega)]
  · rw [if_neg v, if_neg v]; rfl

theorem next_f (h : Int) (hh : -9223372036854775808 ≤ h ∧ h ≤ 9223372036854775807) : handle_Next.f h = some (if vl h = true then pk ((h - 1) % 32) ((h - 1) / 32 + 1) else 0) := by
  unfold handle_Next.f
  rw [slot_f h hh, gen_f h hh]; simp only [Option.bind_some]
  by_cases v : vl h = true
  · rw [if_pos v, if_pos v, if_pos v]
    rw [w64_in _ (by omega), pack_f _ _ (by omega) (by omega)]; rfl
  · rw [if_neg v, if_neg v, if_neg v]
    rw [w64_in _ (by omega), pack_f _ _ (by omega) (by omega)]; rfl

theorem shown_f : mortmainlaw01_shown.f = some true := by
  unfold mortmainlaw01_shown.f
  rw [pack_f 2 1 (by decide) (by decide), slot_f 35 (by decide), gen_f 35 (by decide), valid_f 35 (by decide), valid_f 0 (by decide), valid_f 25 (by decide),
    next_f 35 (by decide), pack_f 2 9 (by decide) (by decide), slot_f (-1) (by decide)]
  have e : pk 2 9 = 291 := by decide
  simp only [Option.bind_some]
  rw [e, next_f 291 (by decide)]
  decide

theorem vl_iff (h : Int) : vl h = true ↔ 1 ≤ h ∧ h ≤ 320 ∧ (h - 1) % 32 < 24 := by unfold vl; rw [decide_eq_true_iff]

theorem pk_valid (a b : Int) (h : 0 ≤ a ∧ a < 24 ∧ 0 ≤ b ∧ b ≤ 9) : vl (pk a b) = true ∧ (pk a b - 1) % 32 = a ∧ (pk a b - 1) / 32 = b := by
  rw [vl_iff]; unfold pk; rw [if_pos h]; omega
theorem pk_bound (a b : Int) : 0 ≤ pk a b ∧ pk a b ≤ 400 := by unfold pk; split <;> omega

theorem back1 (h : Int) (hh : -9223372036854775808 ≤ h ∧ h ≤ 9223372036854775807) (k : Nat) : mortmainlaw01_HandleBack.j1 (k + 1) h false = some true := by
  simp only [mortmainlaw01_HandleBack.j1]
  rw [if_neg (by decide), valid_f h hh, slot_f h hh, gen_f h hh, shown_f]
  simp only [Option.bind_some]
  by_cases v : vl h = true
  · rw [if_pos v, if_pos v, if_pos v, pack_f _ _ (by omega) (by omega)]
    simp only [Option.bind_some]
    have := pk_eq h (by rw [vl_iff] at v; omega)
    rw [v, beq_iff_eq] at this
    rw [if_pos this]
  · rw [if_neg v]

theorem HandleBack : mortmainlaw01_HandleBack.Pure := by
  intro a b h wa wb wh
  have ha := bounds_i64 wa
  have hb := bounds_i64 wb
  have hh := bounds_i64 wh
  refine ⟨2, ?_⟩
  unfold mortmainlaw01_HandleBack.f
  rw [pack_f a b ha hb]
  simp only [Option.bind_some]
  have no : ∀ c : Bool, c = false → ¬ (0 ≤ a ∧ a < 24 ∧ 0 ≤ b ∧ b ≤ 9) → mortmainlaw01_HandleBack.j0 2 a b h (pk a b) c = some true := by
    intro c hc hn
    subst hc
    simp only [mortmainlaw01_HandleBack.j0]
    have e : pk a b = 0 := by unfold pk; rw [if_neg hn]
    rw [if_neg (by decide), e]
    exact back1 h hh 0
  by_cases h1 : a ≥ 0
  · rw [if_pos h1]
    by_cases h2 : a < 24
    · rw [if_pos h2]
      by_cases h3 : b ≥ 0
      · rw [if_pos h3]
        by_cases h4 : b ≤ 9
        · rw [decide_eq_true h4]
          have hp := pk_valid a b (by omega)
          have hq := pk_bound a b
          simp only [mortmainlaw01_HandleBack.j0]
          rw [if_pos trivial, valid_f _ (by omega), slot_f _ (by omega), gen_f _ (by omega)]
          simp only [Option.bind_some]
          rw [if_pos hp.1, if_pos hp.1, if_pos hp.1, if_pos hp.2.1, if_pos hp.2.2]
          exact back1 h hh 0
        · exact no _ (decide_eq_false h4) (by omega)
      · rw [if_neg h3]; exact no _ rfl (by omega)
    · rw [if_neg h2]; exact no _ rfl (by omega)
  · rw [if_neg h1]; exact no _ rfl (by omega)

end Go.Proofs.Ythkioofmomdhoaa.Pure
