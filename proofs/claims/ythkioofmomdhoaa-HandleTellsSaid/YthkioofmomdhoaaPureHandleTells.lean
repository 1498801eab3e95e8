/- For every slot, generation and number: the handle, its parts and its next one are the reference's, and the shown cases are so. -/
import Derived.Test.YthkioofmomdhoaaPHandleTellsx1
import Derived.OpenShut
import Derived.Laws.BitsLemmas
namespace Go.Proofs.Ythkioofmomdhoaa.Pure
open Go.RowKit Go.Proofs.Ythkioofmomdhoaa.PHandleTells Go.Proofs.YthkioofmomdhoaaW.PrintWords Go.Proofs.YthkioofmomdhoaaW.PrintLast

/-- The handle of a slot and a generation. -/
def pk (a b : Int) : Int := if 0 ≤ a ∧ a < 24 ∧ 0 ≤ b ∧ b ≤ 9 then 1 + a + 32 * b else 0
/-- Is it a handle? -/
def vl (h : Int) : Bool := decide (1 ≤ h ∧ h ≤ 320 ∧ (h - 1) % 32 < 24)

theorem w64_in (n : Int) (h : -9223372036854775808 ≤ n ∧ n ≤ 9223372036854775807) : wrap64 n = n := by unfold wrap64; omega
theorem u64_in (n : Int) : IntKind.u64.wrap n = n % 18446744073709551616 := by simp [IntKind.wrap, IntKind.bits, IntKind.signed]
theorem and31 (x : Int) (h₀ : 0 ≤ x) (h₁ : x ≤ 9223372036854775807) : Go.bits .and .i64 x 31 = x % 32 :=
  bits_mask .i64 63 (by decide) (fun n a b => by rw [IntKind.wrap_i64]; omega) 5 (by decide) x h₀ (by omega)
theorem or32 (x y : Int) (h₀ : 0 ≤ x) (h : x % 32 = 0) (h₁ : x ≤ 1000) (hy : 0 ≤ y) (hy₁ : y < 32) : Go.bits .or .i64 x y = x + y :=
  bits_join .i64 63 (by decide) (fun n a b => by rw [IntKind.wrap_i64]; omega) 5 x y h₀ (by omega) (by omega) hy (by omega) (by omega)

theorem within_f (a m : Int) (ha : -9223372036854775808 ≤ a ∧ a ≤ 9223372036854775807) (hm : 0 ≤ m ∧ m ≤ 100) : handle_within.f a m = some (decide (0 ≤ a ∧ a ≤ m)) := by
  unfold handle_within.f
  rw [u64_in, u64_in]
  congr 1
  rw [decide_eq_decide]
  omega

theorem pack_f (a b : Int) (ha : -9223372036854775808 ≤ a ∧ a ≤ 9223372036854775807) (hb : -9223372036854775808 ≤ b ∧ b ≤ 9223372036854775807) :
    handle_Pack.f a b = some (pk a b) := by
  unfold handle_Pack.f pk
  rw [within_f a 23 ha (by omega)]; simp only [Option.bind_some]
  by_cases h1 : 0 ≤ a ∧ a ≤ 23
  · rw [decide_eq_true h1, if_pos rfl, within_f b 9 hb (by omega)]; simp only [Option.bind_some]
    by_cases h2 : 0 ≤ b ∧ b ≤ 9
    · rw [decide_eq_true h2, if_pos rfl, if_pos (by omega), w64_in (b * 32) (by omega), or32 (b * 32) a (by omega) (by omega) (by omega) (by omega) (by omega), w64_in _ (by omega)]
      congr 1; omega
    · rw [decide_eq_false h2, if_neg (by decide), if_neg (by omega)]
  · rw [decide_eq_false h1, if_neg (by decide), if_neg (by omega)]

theorem pk_eq (h : Int) (h0 : 0 < h) : (pk ((h - 1) % 32) ((h - 1) / 32) == h) = vl h := by
  unfold pk vl
  rw [Bool.eq_iff_iff, beq_iff_eq, decide_eq_true_iff]
  split <;> omega

theorem valid_f (h : Int) (hh : -9223372036854775808 ≤ h ∧ h ≤ 9223372036854775807) : handle_Valid.f h = some (vl h) := by
  unfold handle_Valid.f
  by_cases h0 : h > 0
  · rw [if_pos h0, w64_in (h - 1) (by omega), and31 (h - 1) (by omega) (by omega), pack_f _ _ (by omega) (by omega)]
    simp only [Option.bind_some]
    rw [pk_eq h h0]
  · rw [if_neg h0]
    unfold vl
    rw [decide_eq_false (by omega)]

theorem slot_f (h : Int) (hh : -9223372036854775808 ≤ h ∧ h ≤ 9223372036854775807) : handle_Slot.f h = some (if vl h = true then (h - 1) % 32 else -1) := by
  unfold handle_Slot.f handle_part.f
  rw [valid_f h hh]; simp only [Option.bind_some]
  by_cases v : vl h = true
  · rw [if_pos v, if_pos v]; simp only [Option.bind_some]
    unfold vl at v; rw [decide_eq_true_iff] at v
    rw [w64_in (h - 1) (by omega), and31 _ (by omega) (by omega)]
  · rw [if_neg v, if_neg v]; rfl

theorem gen_f (h : Int) (hh : -9223372036854775808 ≤ h ∧ h ≤ 9223372036854775807) : handle_Gen.f h = some (if vl h = true then (h - 1) / 32 else -1) := by
  unfold handle_Gen.f handle_part.f
  rw [valid_f h hh]; simp only [Option.bind_some]
  by_cases v : vl h = true
  · rw [if_pos v, if_pos v]; simp only [Option.bind_some]
    unfold vl at v; rw [decide_eq_true_iff] at v
    rw [w64_in (h - 1) (by omega)]
  · rw [if_neg v, if_neg v]; rfl

theorem next_f (h : Int) (hh : -9223372036854775808 ≤ h ∧ h ≤ 9223372036854775807) : handle_Next.f h = some (if vl h = true then pk ((h - 1) % 32) ((h - 1) / 32 + 1) else 0) := by
  unfold handle_Next.f
  rw [slot_f h hh, gen_f h hh]; simp only [Option.bind_some]
  by_cases v : vl h = true
  · rw [if_pos v, if_pos v, if_pos v]
    rw [w64_in _ (by omega), pack_f _ _ (by omega) (by omega)]; rfl
  · rw [if_neg v, if_neg v, if_neg v]
    rw [w64_in _ (by omega), pack_f _ _ (by omega) (by omega)]; rfl

theorem shown_f : mortmainlaw01_shown.f = some true := by
  unfold mortmainlaw01_shown.f
  rw [pack_f 2 1 (by decide) (by decide), slot_f 35 (by decide), gen_f 35 (by decide), valid_f 35 (by decide), valid_f 0 (by decide), valid_f 25 (by decide),
    next_f 35 (by decide), pack_f 2 9 (by decide) (by decide), slot_f (-1) (by decide)]
  have e : pk 2 9 = 291 := by decide
  simp only [Option.bind_some]
  rw [e, next_f 291 (by decide)]
  decide

theorem vl_iff (h : Int) : vl h = true ↔ 1 ≤ h ∧ h ≤ 320 ∧ (h - 1) % 32 < 24 := by unfold vl; rw [decide_eq_true_iff]

theorem rpack_f (a b : Int) : mortmainref01_Pack.f a b = some (pk a b) := by
  unfold mortmainref01_Pack.f pk
  by_cases h1 : a < 0
  · rw [if_pos h1, if_neg (by omega)]
  rw [if_neg h1]
  by_cases h2 : a > 23
  · rw [if_pos h2, if_neg (by omega)]
  rw [if_neg h2]
  by_cases h3 : b < 0
  · rw [if_pos h3, if_neg (by omega)]
  rw [if_neg h3]
  by_cases h4 : b > 9
  · rw [if_pos h4, if_neg (by omega)]
  rw [if_neg h4, if_pos (by omega), w64_in (1 + a) (by omega), w64_in (32 * b) (by omega), w64_in _ (by omega)]

theorem tmod32 (x : Int) (h : 0 ≤ x) : Int.tmod x 32 = x % 32 := Int.tmod_eq_emod_of_nonneg h
theorem tdiv32 (x : Int) (h : 0 ≤ x) : Int.tdiv x 32 = x / 32 := Int.tdiv_eq_ediv_of_nonneg h

theorem rvalid_f (h : Int) : mortmainref01_Valid.f h = some (vl h) := by
  unfold mortmainref01_Valid.f
  by_cases h1 : h < 1
  · rw [if_pos h1]; unfold vl; rw [decide_eq_false (by omega)]
  rw [if_neg h1]
  by_cases h2 : h > 400
  · rw [if_pos h2]; unfold vl; rw [decide_eq_false (by omega)]
  rw [if_neg h2, w64_in (h - 1) (by omega), tmod32 _ (by omega), tdiv32 _ (by omega), w64_in _ (by omega), rpack_f]
  simp only [Option.bind_some]
  rw [pk_eq h (by omega)]

theorem rslot_f (h : Int) : mortmainref01_Slot.f h = some (if vl h = true then (h - 1) % 32 else -1) := by
  unfold mortmainref01_Slot.f
  rw [rvalid_f]; simp only [Option.bind_some]
  by_cases v : vl h = true
  · rw [if_pos v, if_pos v]
    rw [vl_iff] at v
    rw [w64_in (h - 1) (by omega), tmod32 _ (by omega)]
  · rw [if_neg v, if_neg v]

theorem rgen_f (h : Int) : mortmainref01_Gen.f h = some (if vl h = true then (h - 1) / 32 else -1) := by
  unfold mortmainref01_Gen.f
  rw [rvalid_f]; simp only [Option.bind_some]
  by_cases v : vl h = true
  · rw [if_pos v, if_pos v]
    rw [vl_iff] at v
    rw [w64_in (h - 1) (by omega), tdiv32 _ (by omega), w64_in _ (by omega)]
  · rw [if_neg v, if_neg v]

theorem rnext_f (h : Int) : mortmainref01_Next.f h = some (if vl h = true then pk ((h - 1) % 32) ((h - 1) / 32 + 1) else 0) := by
  unfold mortmainref01_Next.f
  rw [rvalid_f, rslot_f, rgen_f]; simp only [Option.bind_some]
  by_cases v : vl h = true
  · rw [if_pos v, if_pos v, if_pos v, if_pos v, rpack_f]
    rw [vl_iff] at v
    rw [w64_in _ (by omega)]; rfl
  · rw [if_neg v, if_neg v]

theorem HandleTells : mortmainlaw01_HandleTells.Pure := by
  intro a b h wa wb wh
  have ha := bounds_i64 wa
  have hb := bounds_i64 wb
  have hh := bounds_i64 wh
  unfold mortmainlaw01_HandleTells.f
  rw [pack_f a b ha hb, rpack_f, valid_f h hh, rvalid_f, slot_f h hh, rslot_f, gen_f h hh, rgen_f, next_f h hh, rnext_f, shown_f]
  simp only [Option.bind_some, if_true, beq_self_eq_true]

end Go.Proofs.Ythkioofmomdhoaa.Pure
