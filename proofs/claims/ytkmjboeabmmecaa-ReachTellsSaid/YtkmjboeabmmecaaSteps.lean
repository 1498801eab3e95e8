/- Steps of a region for the hand-proved leaves: an append that must grow (to a slice cut with its capacity). Conditions: those of each lemma. -/
import Derived.Deep.RegionLawGrows
import Derived.Test.YtkmjboeabmmecaaWMore
import Derived.Test.YtkmjboeabmmecaaWTab
namespace Go.Proofs.Ytkmjboeabmmecaa.Steps
open Go.RowKit Go.Proofs.YtkmjboeabmmecaaW.PrintWords Go.Proofs.YtkmjboeabmmecaaW.PrintLast Go.Proofs.YtkmjboeabmmecaaW.PrintMore
def Flat {α : Type} (d : Kd α) : Prop := ∀ (w w' : World) (base : Nat) (ok : Nat → Prop) (x : α) (cs : List Value), d.K w x cs → d.M w' base ok x cs
theorem flat_int (k : IntKind) : Flat (Kd.int k) := fun _ _ _ _ _ _ h => h
theorem flat_pair {α β : Type} {a : Kd α} {b : Kd β} (ha : Flat a) (hb : Flat b) : Flat (Kd.pair a b) := by
  rintro w w' base ok x cs ⟨c0, c1, rfl, h0, h1⟩
  exact ⟨c0, c1, rfl, ha _ _ _ _ _ _ h0, hb _ _ _ _ _ _ h1⟩
theorem flat_iso {α β : Type} {d : Kd α} (f : β → α) (h : Flat d) : Flat (Kd.iso d f) := fun w w' base ok x cs hk => h w w' base ok (f x) cs hk
section
variable {P : Program} {o : Oper} {ops : Array Oper} {a : Act} {W : World} {K : Act → World → Prop} {Q : Exit → Act → World → Prop}
theorem append_full_step {α : Type} (d : Kd α) (hflat : Flat d) {Rr : α → List Value → Prop} (e t : TypeId) (s x : Operand) (z : Value) (bytes : Nat) (hg : o.guard = none)
    (hop : o.op = Op.call { callee := Callee.builtin Builtin.append, args := #[s, x], argTypes := #[t, t] })
    (ht : P.underlying t = some (.slice e)) (hinfo : (P.info? e).map (fun i => (i.zero, i.size, i.bytes)) = some (some z, d.sz, bytes)) (hz : z.cells.size = d.sz) (hs0 : 0 < d.sz)
    (A : Option Addr) (xs ys : List α) (hs : a.eval s = .slice A xs.length xs.length) (HV : d.C W A xs.length xs)
    (ad : Addr) (m c : Nat) (hx : a.eval x = .slice (some ad) m c) (HR : ReadsRow Rr d.sz W (some ad) m ys) (hRK : ∀ y cs, Rr y cs → d.K W y cs) (hm : 0 < m) (hA : A = none → xs = [])
    (b1 : xs.length + m ≤ maxLen) (b2 : (xs.length + m) * bytes ≤ 140737488355328)
    (hK : ∀ v' w', d.R e w' W.heap.size (fun k => W.heap.size ≤ k) v' (xs ++ ys) → W.grownBy w' none → K (a.put o.dst v') w') :
    if Region.wanted o (yielded ops a.tmps) = true then Oper.wp P o a W K Q else K (a.put o.dst undef) W := by
  obtain ⟨i0, hi, hzz⟩ := Option.map_eq_some_iff.1 hinfo
  simp only [Prod.mk.injEq] at hzz
  obtain ⟨hz0, hz1, hz2⟩ := hzz
  obtain ⟨news, hnr, hnc⟩ := ReadsRow.inner_ HR
  have hyl : ys.length = m := HR.1
  have hnM : ∀ w' base ok, Reps (d.M w' base ok) d.sz ys news := fun w' base ok => hnr.imp_ (fun p c hp => hflat _ _ _ _ _ _ (hRK p c hp))
  have hone : ∀ u ∈ news, u.oneCell' = true := by
    intro u hu
    obtain ⟨q, hq, rfl⟩ := List.mem_iff_getElem.1 hu
    have hql : q / d.sz < ys.length := by
      rw [Nat.div_lt_iff_lt_mul hs0, ← hnr.1]; exact hq
    have hc := hnr.2 (q / d.sz) _ (List.getElem?_eq_getElem hql)
    refine d.K_one (hRK _ _ hc) _ ?_
    rw [List.mem_iff_getElem?]
    refine ⟨q % d.sz, ?_⟩
    rw [List.getElem?_take, if_pos (Nat.mod_lt _ hs0), List.getElem?_drop, Nat.mul_comm, Nat.div_add_mod, List.getElem?_eq_getElem hq]
  have hold : ∃ olds, Reps (d.K W) d.sz xs olds ∧ ∀ b, A = some b → ∀ j u, olds[j]? = some u → W.cell? (b.add j) = some u := by
    cases A with
    | none => rw [hA rfl]; exact ⟨[], Reps.none _ _, fun b h => by cases h⟩
    | some b =>
      obtain ⟨olds, h1, h2⟩ := ReadsRow.inner_ HV
      exact ⟨olds, h1, fun b' h => by cases h; exact h2⟩
  obtain ⟨olds, hor, hoc⟩ := hold
  have hlo : olds.length = xs.length * d.sz := hor.1
  refine step_append_grows (E := K (a.put o.dst undef) W) hg s x t hop e i0 z d.sz bytes ht hi hz0 hz1 hz2 hz hs0 A xs.length xs.length olds hs (fun h => by rw [hA h]; exact ⟨rfl, rfl⟩) hlo hoc ad m c news hx (by rw [hnr.1, hyl]) hnc hone (by omega) b1 b2 (fun v' w' hown hgrow => ?_)
  refine hK v' w' ⟨fun k hk => ?_, olds ++ news, ?_, ?_⟩ hgrow
  · exact own_base hown k hk
  · rw [List.length_append, hyl]; exact hown
  · refine ⟨by rw [List.length_append, hlo, hnr.1, List.length_append, Nat.add_mul], fun j p hj => ?_⟩
    rcases Nat.lt_or_ge j xs.length with hjl | hjl
    · rw [List.getElem?_append_left hjl] at hj
      have h1 : j * d.sz + d.sz ≤ olds.length := by rw [hlo, ← Nat.succ_mul]; exact Nat.mul_le_mul_right _ hjl
      rw [List.drop_append_of_le_length (by omega), List.take_append_of_le_length (by rw [List.length_drop]; omega)]
      exact hflat _ _ _ _ _ _ (hor.2 j p hj)
    · rw [List.getElem?_append_right hjl] at hj
      have e1 : j * d.sz = olds.length + (j - xs.length) * d.sz := by rw [hlo, ← Nat.add_mul]; congr 1; omega
      rw [e1, ← List.drop_drop, List.drop_left]
      exact (hnM _ _ _).2 _ p hj
end
end Go.Proofs.Ytkmjboeabmmecaa.Steps
namespace Go.Proofs.YtkmjboeabmmecaaW.PrintWords.Kd
open Go.RowKit Go.Proofs.YtkmjboeabmmecaaW.PrintWords
theorem pos_of_eq {α : Type} {l : List α} {t : Int} (h1 : (t < (l.length : Int)) = True) (h0 : (0 ≤ t) = True) : 0 < l.length := by have a := of_eq_true h1; have b := of_eq_true h0; omega
theorem V_away {α : Type} {d : Kd α} {e : Nat} {W : World} {base : Nat} {ok : Nat → Prop} {v : Value} {xs : List α} {g : Nat} (h : V d e W base ok v xs) (hok : ∀ k, ok k → k ≠ g)
    (hn : 0 < xs.length := by first | assumption | exact of_eq_true (by assumption) | omega | exact Go.Proofs.YtkmjboeabmmecaaW.PrintWords.Kd.pos_of_eq (by assumption) (by assumption)) (hs : 0 < d.sz := by decide) : some g ≠ v.ownBlock := by
  obtain ⟨A, c, rfl, _, hf⟩ := h
  intro he
  have hC := hf { W with heap := W.heap.setIfInBounds g (.cells #[] 0 (0, 0)) } (fun k hk _ => by
    show (W.heap.setIfInBounds g _)[k]? = _
    rw [Array.getElem?_setIfInBounds_ne (Ne.symm (hok k hk))])
  obtain ⟨ad, rfl, hr⟩ := hC.2.2 hn
  obtain ⟨cs, hc, _, hcell⟩ := hr 0 _ (List.getElem?_eq_getElem hn)
  have hg : g = ad.block := by simpa [Value.ownBlock] using he
  subst hg
  have h1 := hcell 0 _ (List.getElem?_eq_getElem (by omega))
  rw [Nat.zero_mul, Nat.add_zero] at h1
  have e2 : ad.add 0 = ad := rfl
  rw [e2] at h1
  have hb : (W.heap.setIfInBounds ad.block (.cells #[] 0 (0, 0)))[ad.block]? = none ∨ (W.heap.setIfInBounds ad.block (.cells #[] 0 (0, 0)))[ad.block]? = some (.cells #[] 0 (0, 0)) := by
    rcases Nat.lt_or_ge ad.block W.heap.size with hlt | hge
    · exact .inr (by rw [Array.getElem?_setIfInBounds_self_of_lt hlt])
    · exact .inl (by rw [Array.getElem?_eq_none]; simpa using hge)
  unfold World.cell? at h1
  rcases hb with hb | hb
  · simp only [hb] at h1
    simp at h1
  · simp only [hb] at h1
    simp at h1
end Go.Proofs.YtkmjboeabmmecaaW.PrintWords.Kd
