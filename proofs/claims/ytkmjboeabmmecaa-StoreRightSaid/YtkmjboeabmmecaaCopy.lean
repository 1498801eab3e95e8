/- A copy of a whole row of any flat kind (structs), as a step of a walk. Conditions: those of each lemma. -/
import Derived.Laws.IdiomCopy
import Derived.Laws.CopyOwn
import Derived.Test.YtkmjboeabmmecaaSteps
namespace Go.Proofs.Ytkmjboeabmmecaa.Steps
open Go.RowKit Go.Proofs.YtkmjboeabmmecaaW.PrintWords Go.Proofs.YtkmjboeabmmecaaW.PrintLast Go.Proofs.YtkmjboeabmmecaaW.PrintMore
theorem run_copy_rowN {P : Program} (w : World) (dT sT ty elem : TypeId) (g o dLen dCap sz : Nat) (a : Addr) (sLen sCap : Nat) (cur : Array Value) (t : TypeId) (cs : List Value)
    (hu : P.underlying dT = some (.slice elem)) (hs : (P.info? elem).map (·.size) = some sz)
    (hg : w.heap[g]? = some (.cells cur t (0, 0))) (hn : cs.length = Nat.min sLen dLen * sz)
    (hsrc : ∀ j v, cs[j]? = some v → w.cell? (a.add j) = some v) (hfit : o + cs.length ≤ cur.size) (h1 : ∀ v ∈ cs, v.oneCell' = true) :
    (Builtin.copy_ #[dT, sT] ty #[.slice (some ⟨g, o, none⟩) dLen dCap, .slice (some a) sLen sCap]).run P w =
      .ok (goInt (Nat.min sLen dLen)) (w.setRow g (cur.toList.take o ++ cs ++ cur.toList.drop (o + cs.length)).toArray) := by
  have hl := run_loadCells_list (P := P) w a cs hsrc
  have hst := run_storeCells_at P g o t cs 0 cur w hg (by simpa using hfit) h1
  cases hq : P.info? elem with
  | none => simp [hq] at hs
  | some i =>
    have hi : i.size = sz := by simpa [hq] using hs
    simp [Builtin.copy_, run_underlying hu, Builtin.lenOf, Builtin.firstCells, sizeOf, typeInfo, hq, hi, ← hn, hl, hst]
theorem run_copy_noneN {P : Program} (w : World) (dT sT ty elem : TypeId) (d a : Option Addr) (dLen dCap sLen sCap sz : Nat) (hu : P.underlying dT = some (.slice elem)) (hs : (P.info? elem).map (·.size) = some sz) (hn : Nat.min sLen dLen = 0) :
    (Builtin.copy_ #[dT, sT] ty #[.slice d dLen dCap, .slice a sLen sCap]).run P w = .ok (goInt 0) w := by
  cases hq : P.info? elem with
  | none => simp [hq] at hs
  | some i =>
    have hl : ∀ (x : Addr), (loadCells x 0).run P w = .ok #[] w := fun x => by simpa using run_loadCells_list (P := P) w x [] (by simp)
    cases d <;> cases a <;> simp [Builtin.copy_, run_underlying hu, Builtin.lenOf, Builtin.firstCells, sizeOf, typeInfo, hq, hn, storeCells, hl]
section
variable {P : Program} {o : Oper} {ops : Array Oper} {rest : List Oper} {a : Act} {W : World} {Q : Exit → Act → World → Prop}
/-- 'copy(out, xs)', where out is a row of the call's own, as long as xs. -/
theorem copy_all_step {α : Type} (d : Kd α) (hflat : Flat d) {w0 : World} (base : Nat) (hgd : o.guard = none) (s x : Operand) (t t' e : TypeId)
    (ho : o.op = .call { callee := .builtin .copy, args := #[s, x], argTypes := #[t, t'] }) (ht : P.underlying t = some (.slice e)) (hinfo : (P.info? e).map (·.size) = some d.sz)
    (v : Value) (xs ys : List α) (A : Option Addr) (c : Nat) (ok : Nat → Prop) (hs : a.eval s = v) (hx : a.eval x = .slice A ys.length c) (hlen : xs.length = ys.length)
    (HO : d.R e W base ok v xs) (HR : d.C W A ys.length ys) (HB : Below base w0 W) (_hbase : base ≤ W.heap.size)
    (h : ∀ w1, d.R e w1 base ok v ys → Below base w0 w1 → wpList P ops Q rest (a.put o.dst (.int .i64 (ys.length : Int))) w1) :
    wpList P ops Q (o :: rest) a W := by
  obtain ⟨hok, inner0, hown, _⟩ := HO
  have fin : ∀ w1, (Builtin.copy_ #[t, t'] o.type #[v, .slice A ys.length c]).run P W = .ok (goInt (ys.length : Int)) w1 → d.R e w1 base ok v ys → Below base w0 w1 → wpList P ops Q (o :: rest) a W := by
    intro w1 hr hrow hb
    refine wpList_plain hgd fun K hK => ?_
    unfold Oper.wp execOp
    simp only [ho, resolve, invoke, builtin, Sem.run_bind, Sem.run_pure, Result.andThen_ok, List.map_toArray, List.map_cons, List.map_nil, hs, hx, hr]
    exact hK _ _ (h w1 hrow hb)
  rcases hown.2 with ⟨hv, hx0⟩ | ⟨g, cap, cur, hv, hb, hh, hnc, hcm, hcs, htake⟩
  · have hy : ys = [] := List.eq_nil_of_length_eq_zero (by omega)
    subst hy
    refine fin W ?_ ?_ HB
    · rw [hv]; exact run_copy_noneN W t t' o.type e none A 0 0 0 c d.sz ht hinfo rfl
    · rw [hv]; exact Kd.R_nil d e W base ok
  · rcases Nat.eq_zero_or_pos ys.length with h0 | hp
    · have hy : ys = [] := List.eq_nil_of_length_eq_zero h0
      have hxz : xs = [] := List.eq_nil_of_length_eq_zero (by omega)
      subst hy
      subst hxz
      refine fin W ?_ ⟨hok, inner0, hown, ?_⟩ HB
      · rw [hv]; exact run_copy_noneN W t t' o.type e _ A 0 cap 0 c d.sz ht hinfo rfl
      · exact ⟨hown.1, fun j p hj => by simp at hj⟩
    · obtain ⟨ad, hA, _⟩ := HR.2.2 hp
      subst hA
      obtain ⟨cs, hrep, hsrc⟩ := ReadsRow.inner_ HR
      have hcl : cs.length = ys.length * d.sz := hrep.1
      have hcap : xs.length * d.sz ≤ cap * d.sz := Nat.mul_le_mul_right _ hnc
      have hfit : 0 + cs.length ≤ cur.size := by rw [hcs, hcl, ← hlen]; omega
      have h1 : ∀ u ∈ cs, u.oneCell' = true := by
        rcases Nat.eq_zero_or_pos d.sz with hz | hs0
        · intro u hu
          rw [hz, Nat.mul_zero] at hcl
          rw [List.eq_nil_of_length_eq_zero hcl] at hu
          cases hu
        · intro u hu
          obtain ⟨q, hq, rfl⟩ := List.mem_iff_getElem.1 hu
          have hql : q / d.sz < ys.length := by
            rw [Nat.div_lt_iff_lt_mul hs0, ← hcl]; exact hq
          have hc := hrep.2 (q / d.sz) _ (List.getElem?_eq_getElem hql)
          refine d.K_one hc _ ?_
          rw [List.mem_iff_getElem?]
          refine ⟨q % d.sz, ?_⟩
          rw [List.getElem?_take, if_pos (Nat.mod_lt _ hs0), List.getElem?_drop, Nat.mul_comm, Nat.div_add_mod, List.getElem?_eq_getElem hq]
      have hmin : Nat.min ys.length xs.length = ys.length := by rw [hlen]; exact Nat.min_self _
      have hr := run_copy_rowN (P := P) W t t' o.type e g 0 xs.length cap d.sz ad ys.length c cur e cs ht hinfo hh (by rw [hmin]; exact hcl) hsrc hfit h1
      rw [hmin] at hr
      refine fin _ (by rw [hv]; exact hr) ?_ (below_setRow HB hb _)
      refine ⟨hok, cs, ⟨hcl, .inr ⟨g, cap, _, by rw [hv, hlen], hb, setRow_heap W g cur _ e (0, 0) hh, by omega, hcm, ?_, ?_⟩⟩, ?_⟩
      · have hsz : cur.toList.length = cap * d.sz := by simpa using hcs
        simp only [List.take_zero, List.nil_append, List.size_toArray, List.length_append, List.length_drop]
        omega
      · simp only [List.take_zero, List.nil_append]
        rw [← hcl, List.take_left]
      · exact ⟨hcl, fun j p hj => hflat _ _ _ _ _ _ (hrep.2 j p hj)⟩
end
end Go.Proofs.Ytkmjboeabmmecaa.Steps
