/- What cells that read as data of a Go type say in the print's kinds: for whole numbers, bools, strings, structs and slices of these, nested as they may be. No condition. -/
import Derived.OpenShut
import Derived.ShutString
import Derived.ChangeArms
import Derived.ChangeOld
import Derived.ProofKit
import Derived.SizedLaws
import Derived.Test.YtkmjboeabmmecaaWWords
namespace Go.Proofs.Ytkmjboeabmmecaa.Opening
open Go.ChangeShapes Go.WideShapes Go.RowKit Go.Proofs.YtkmjboeabmmecaaW.PrintWords
def Opens {α : Type} (P : Program) (t : TypeId) (d : Kd α) (wf : α → Prop) : Prop :=
  P.cellsOf t = d.sz ∧ ∀ (H : Type) (enc : TypeId × Value → H) (W : World) (base : Nat) (spare : Nat → Bool) (held : Bool) (fuel : Nat) (cs : List Value) (x : DataW H × List MemPlace),
    DataW.trod enc P W base spare held fuel t cs = some x → ∃ a, d.K W a cs ∧ wf a
def OpensL {α : Type} (P : Program) (fs : List Field) (o : Nat) (d : Kd α) (wf : α → Prop) : Prop :=
  ∀ (H : Type) (enc : TypeId × Value → H) (W : World) (base : Nat) (spare : Nat → Bool) (held : Bool) (fuel : Nat) (cs : List Value), cs.length = o + d.sz →
    (∀ f ∈ fs, ∃ y, DataW.trod enc P W base spare held fuel f.type ((cs.drop f.offset).take (P.cellsOf f.type)) = some y) → ∃ a, d.K W a (cs.drop o) ∧ wf a
def wfInt (k : IntKind) (n : Int) : Prop := (Lit.int k n).wf = true
def wfBool (_ : Bool) : Prop := True
def wfList {α : Type} (wf : α → Prop) (xs : List α) : Prop := xs.length ≤ maxLen ∧ ∀ x ∈ xs, wf x
section
variable {P : Program} {t : TypeId}
theorem Opens.imp {α : Type} {d : Kd α} {wf wf' : α → Prop} (h : Opens P t d wf) (hw : ∀ a, wf a → wf' a) : Opens P t d wf' :=
  ⟨h.1, fun H enc W base spare held fuel cs x hx => by
    obtain ⟨a, h1, h2⟩ := h.2 H enc W base spare held fuel cs x hx
    exact ⟨a, h1, hw a h2⟩⟩
theorem opens_int {k : IntKind} (ht : P.underlying t = some (.int k)) (hc : P.cellsOf t = 1) : Opens P t (Kd.int k) (wfInt k) :=
  ⟨hc, fun H enc W base spare held fuel cs x hx => by
    cases fuel with
    | zero => simp [DataW.trod] at hx
    | succ n =>
      unfold DataW.trod at hx
      rw [ht] at hx
      split at hx <;> simp_all
      obtain ⟨⟨rfl, hw⟩, _⟩ := hx
      exact ⟨_, rfl, hw⟩⟩
theorem opens_bool (ht : P.underlying t = some .bool) (hc : P.cellsOf t = 1) : Opens P t Kd.bool wfBool :=
  ⟨hc, fun H enc W base spare held fuel cs x hx => by
    cases fuel with
    | zero => simp [DataW.trod] at hx
    | succ n =>
      unfold DataW.trod at hx
      rw [ht] at hx
      split at hx <;> try (simp_all; done)
      exact ⟨_, rfl, trivial⟩⟩
theorem opens_slice {α : Type} {e : TypeId} {d : Kd α} {wf : α → Prop} (ht : P.underlying t = some (.slice e)) (hc : P.cellsOf t = 1) (he : Opens P e d wf) : Opens P t (Kd.slice e d) (wfList wf) :=
  ⟨hc, fun H enc W base spare held fuel cs x hx => by
    rcases DataW.trod_slice ht hx with ⟨rfl, _⟩ | ⟨a, len, cap, elems, rest, n, _, rfl, _, hb, hl, hm, hn, hel, _⟩
    · exact ⟨[], ⟨none, 0, rfl, Nat.le_refl _, ⟨rfl, by simp, fun h => absurd h (by simp)⟩⟩, by simp [wfList]⟩
    · have key : ∀ i, i < len → ∃ y c, c.length = d.sz ∧ d.K W y c ∧ wf y ∧ ∀ j u, c[j]? = some u → W.cell? (a.add (i * d.sz + j)) = some u := by
        intro i hi
        have h1 := hel i hi
        rw [List.getElem?_eq_getElem (by omega)] at h1
        obtain ⟨c, hc1, hc2⟩ := Option.bind_eq_some_iff.mp h1
        obtain ⟨y, hy1, hy2⟩ := he.2 H enc W base spare held n c _ hc2
        refine ⟨y, c, d.K_len hy1, hy1, hy2, fun j u hj => ?_⟩
        have hj' : j < P.cellsOf e := by
          have := (List.getElem?_eq_some_iff.1 hj).1
          have := d.K_len hy1
          have := he.1
          omega
        unfold World.cells? at hc1
        have hba : base ≤ (a.add (i * P.cellsOf e)).block := by rw [add_block]; exact hb
        rw [if_pos hba] at hc1
        have h2 := mapM_some_get hc1 j j (by rw [List.getElem?_range hj'])
        rw [hj] at h2
        rw [← he.1, ← h2, add_add]
      have key2 : ∀ m, m ≤ len → ∃ ys : List α, ys.length = m ∧ (∀ y ∈ ys, wf y) ∧ ∀ i y, ys[i]? = some y → ∃ c, c.length = d.sz ∧ d.K W y c ∧ ∀ j u, c[j]? = some u → W.cell? (a.add (i * d.sz + j)) = some u := by
        intro m
        induction m with
        | zero => exact fun _ => ⟨[], rfl, by simp, fun i y h => by simp at h⟩
        | succ m ih =>
          intro hm'
          obtain ⟨ys, h1, h2, h3⟩ := ih (by omega)
          obtain ⟨y, c, g1, g2, g3, g4⟩ := key m (by omega)
          refine ⟨ys ++ [y], by simp [h1], fun z hz => ?_, fun i z hz => ?_⟩
          · rcases List.mem_append.1 hz with hz | hz
            · exact h2 z hz
            · rw [List.mem_singleton.1 hz]; exact g3
          · rcases Nat.lt_or_ge i ys.length with hi | hi
            · rw [List.getElem?_append_left hi] at hz
              exact h3 i z hz
            · have hi' : i = ys.length := by
                have := (List.getElem?_eq_some_iff.1 hz).1
                rw [List.length_append, List.length_singleton] at this
                omega
              subst hi'
              have hz' : y = z := by simpa using hz
              subst hz'
              rw [h1]
              exact ⟨c, g1, g2, g4⟩
      obtain ⟨ys, h1, h2, h3⟩ := key2 len (Nat.le_refl _)
      have hmax : maxLen = 9223372036854775807 := rfl
      subst h1
      exact ⟨ys, ⟨some a, cap, rfl, hl, ⟨rfl, by omega, fun _ => ⟨a, rfl, h3⟩⟩⟩, by omega, h2⟩⟩
theorem opensL_last {α : Type} {f : Field} {o : Nat} {d : Kd α} {wf : α → Prop} (ho : f.offset = o) (h : Opens P f.type d wf) : OpensL P [f] o d wf := by
  intro H enc W base spare held fuel cs hl hfs
  obtain ⟨y, hy⟩ := hfs f (by simp)
  rw [ho, h.1, List.take_of_length_le (by rw [List.length_drop]; omega)] at hy
  exact h.2 H enc W base spare held fuel _ _ hy
theorem opensL_cons {α β : Type} {f : Field} {fs : List Field} {o : Nat} {d : Kd α} {d2 : Kd β} {wf : α → Prop} {wf2 : β → Prop} (ho : f.offset = o) (h : Opens P f.type d wf) (h2 : OpensL P fs (o + d.sz) d2 wf2) :
    OpensL P (f :: fs) o (Kd.pair d d2) (fun x => wf x.1 ∧ wf2 x.2) := by
  intro H enc W base spare held fuel cs hl hfs
  have hl' : cs.length = o + (d.sz + d2.sz) := hl
  obtain ⟨y, hy⟩ := hfs f (by simp)
  rw [ho, h.1] at hy
  obtain ⟨a, ha, hw⟩ := h.2 H enc W base spare held fuel _ _ hy
  obtain ⟨b, hb, hw2⟩ := h2 H enc W base spare held fuel cs (by omega) (fun g hg => hfs g (by simp [hg]))
  refine ⟨(a, b), ⟨_, _, ?_, ha, hb⟩, hw, hw2⟩
  rw [← List.drop_drop]
  exact (List.take_append_drop d.sz (cs.drop o)).symm
theorem opens_struct {α : Type} {fs : Array Field} {d : Kd α} {wf : α → Prop} (ht : P.underlying t = some (.struct fs)) (hc : P.cellsOf t = d.sz) (h : OpensL P fs.toList 0 d wf) : Opens P t d wf :=
  ⟨hc, fun H enc W base spare held fuel cs x hx => by
    obtain ⟨xs, n, _, _, hl, hn, hf⟩ := DataW.trod_struct ht hx
    obtain ⟨a, h1, h2⟩ := h H enc W base spare held n cs (by rw [Nat.zero_add, ← hc]; exact hl) (fun f hff => by
      obtain ⟨i, hi, e⟩ := List.getElem_of_mem hff
      have hi' : i < fs.size := by simpa using hi
      have := hf i f (by rw [Array.getElem?_eq_getElem hi', ← e]; simp)
      rw [List.getElem?_eq_getElem (by omega)] at this
      exact ⟨_, this⟩)
    exact ⟨a, h1, h2⟩⟩
theorem opens_iso {α β : Type} {d : Kd α} {wf : α → Prop} (f : β → α) (g : α → β) (hfg : ∀ a, f (g a) = a) (h : Opens P t d wf) : Opens P t (Kd.iso d f) (fun b => wf (f b)) :=
  ⟨h.1, fun H enc W base spare held fuel cs x hx => by
    obtain ⟨a, h1, h2⟩ := h.2 H enc W base spare held fuel cs x hx
    exact ⟨g a, by show d.K W (f (g a)) cs; rw [hfg]; exact h1, by show wf (f (g a)); rw [hfg]; exact h2⟩⟩
end
end Go.Proofs.Ytkmjboeabmmecaa.Opening
