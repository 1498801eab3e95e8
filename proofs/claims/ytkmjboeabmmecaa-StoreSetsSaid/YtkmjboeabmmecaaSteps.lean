/- Steps of a region for the hand-proved leaves: an append that must grow (to a slice cut with its capacity). Conditions: those of each lemma. -/
import Derived.Deep.RegionLawGrows
import Derived.Test.YtkmjboeabmmecaaWMore
import Derived.Test.YtkmjboeabmmecaaWTab
namespace Go.Proofs.Ytkmjboeabmmecaa.Steps
open Go.RowKit Go.Proofs.YtkmjboeabmmecaaW.PrintWords Go.Proofs.YtkmjboeabmmecaaW.PrintLast Go.Proofs.YtkmjboeabmmecaaW.PrintMore
def Flat {α : Type} (d : Kd α) : Prop := ∀ (w w' : World) (base : Nat) (ok : Nat → Prop) (x : α) (cs : List Value), d.K w x cs → d.M w' base ok x cs
theorem flat_int (k : IntKind) : Flat (Kd.int k) := fun _ _ _ _ _ _ h => h
theorem flat_pair {α β : Type} {a : Kd α} {b : Kd β} (ha : Flat a) (hb : Flat b) : Flat (Kd.pair a b) := by
  rintro w w' base ok x cs ⟨c0, c1, rfl, h0, h1⟩
  exact ⟨c0, c1, rfl, ha _ _ _ _ _ _ h0, hb _ _ _ _ _ _ h1⟩
theorem flat_iso {α β : Type} {d : Kd α} (f : β → α) (h : Flat d) : Flat (Kd.iso d f) := fun w w' base ok x cs hk => h w w' base ok (f x) cs hk
end Go.Proofs.Ytkmjboeabmmecaa.Steps
namespace Go.Proofs.YtkmjboeabmmecaaW.PrintWords.Kd
open Go.RowKit Go.Proofs.YtkmjboeabmmecaaW.PrintWords
theorem pos_of_eq {α : Type} {l : List α} {t : Int} (h1 : (t < (l.length : Int)) = True) (h0 : (0 ≤ t) = True) : 0 < l.length := by have a := of_eq_true h1; have b := of_eq_true h0; omega
theorem V_away {α : Type} {d : Kd α} {e : Nat} {W : World} {base : Nat} {ok : Nat → Prop} {v : Value} {xs : List α} {g : Nat} (h : V d e W base ok v xs) (hok : ∀ k, ok k → k ≠ g)
    (hn : 0 < xs.length := by first | assumption | exact of_eq_true (by assumption) | omega | exact Go.Proofs.YtkmjboeabmmecaaW.PrintWords.Kd.pos_of_eq (by assumption) (by assumption)) (hs : 0 < d.sz := by decide) : some g ≠ v.ownBlock := by
  obtain ⟨A, c, rfl, _, hf⟩ := h
  intro he
  have hC := hf { W with heap := W.heap.setIfInBounds g (.cells #[] 0 (0, 0)) } (fun k hk _ => by
    show (W.heap.setIfInBounds g _)[k]? = _
    rw [Array.getElem?_setIfInBounds_ne (Ne.symm (hok k hk))])
  obtain ⟨ad, rfl, hr⟩ := hC.2.2 hn
  obtain ⟨cs, hc, _, hcell⟩ := hr 0 _ (List.getElem?_eq_getElem hn)
  have hg : g = ad.block := by simpa [Value.ownBlock] using he
  subst hg
  have h1 := hcell 0 _ (List.getElem?_eq_getElem (by omega))
  rw [Nat.zero_mul, Nat.add_zero] at h1
  have e2 : ad.add 0 = ad := rfl
  rw [e2] at h1
  have hb : (W.heap.setIfInBounds ad.block (.cells #[] 0 (0, 0)))[ad.block]? = none ∨ (W.heap.setIfInBounds ad.block (.cells #[] 0 (0, 0)))[ad.block]? = some (.cells #[] 0 (0, 0)) := by
    rcases Nat.lt_or_ge ad.block W.heap.size with hlt | hge
    · exact .inr (by rw [Array.getElem?_setIfInBounds_self_of_lt hlt])
    · exact .inl (by rw [Array.getElem?_eq_none]; simpa using hge)
  unfold World.cell? at h1
  rcases hb with hb | hb
  · simp only [hb] at h1
    simp at h1
  · simp only [hb] at h1
    simp at h1
end Go.Proofs.YtkmjboeabmmecaaW.PrintWords.Kd
