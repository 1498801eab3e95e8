/- The functions of the store, as the printed walks take them. Conditions: those of each lemma. -/
import Derived.Test.YtkmjboeabmmecaaHndE
namespace Go.Proofs.Ytkmjboeabmmecaa.MAll
open Go.RowKit Go.Proofs.YtkmjboeabmmecaaW.PrintWords Go.Proofs.YtkmjboeabmmecaaW.PrintLast Go.Proofs.YtkmjboeabmmecaaW.PrintMore
attribute [local go_sem] max2_int min2_int max_two min_two max_three min_three max_four min_four
set_option linter.unusedVariables false
set_option linter.unusedSimpArgs false
attribute [local go_sem] Oper.semAt_some
open Go.Shelf Go.Proofs.Ytkmjboeabmmecaa
theorem FO_V {W : World} {P : Nat → Prop} {v : RO} {d : S29} (h : FO W P v d) (base : Nat) : Kd.V (Kd.int .i64) 3 W base P (.slice v.fa v.fn v.fc) d.f5 := by
  obtain ⟨_, _, _, _, _, hn, hc, _⟩ := h.now
  rw [hn]
  exact ⟨v.fa, v.fc, rfl, hc, fun W2 h2 => (h W2 h2).2.2.2.2.2.2.2⟩
theorem V_FO {W : World} {base : Nat} {P : Nat → Prop} {A : Option Addr} {c : Nat} {l : List Int} (x0 x1 x2 x3 : Int) (x4 : Bool) (h : Kd.V (Kd.int .i64) 3 W base P (.slice A l.length c) l) : FO W P ⟨x0, x1, x2, x3, x4, A, l.length, c⟩ ⟨x0, x1, x2, x3, x4, l⟩ := by
  obtain ⟨A', c', e, hc, hF⟩ := h
  cases e
  exact fun W2 h2 => ⟨rfl, rfl, rfl, rfl, rfl, rfl, hc, hF W2 h2⟩
theorem getV_c {w : World} {P : Nat → Prop} {A : Option Addr} {c : Nat} {ds : List S82} {last ser h : Int} (hbig : ds.length ≤ 1000000) (hV : Kd.V k82 82 w w.heap.size (fun k_ => P k_) (.slice A ds.length c) ds) :
    Calls Try.prog 23 #[.agg #[.slice A ds.length c, .int .i64 last, .int .i64 ser], .int .i64 h] w fun e w' => ∃ v5_ : Value, e = .returned (.tuple #[.agg #[.int .i64 (getd ds h).1.f0, .int .i64 (getd ds h).1.f1, .int .i64 (getd ds h).1.f2, .int .i64 (getd ds h).1.f3, .bool (getd ds h).1.f4, v5_], .int .i64 (getd ds h).2]) ∧ Kd.V (Kd.int .i64) 3 w' w.heap.size (fun k_ => (P k_ ∨ w.heap.size ≤ k_)) v5_ (getd ds h).1.f5 ∧ Below w.heap.size w w' := by
  refine (sGet hbig hV).mono ?_
  rintro e w' ⟨v, rfl, hrel, hb⟩
  have h2 := hrel.below hb (fun k hk => (Or.inl hk : P k ∨ w.heap.size ≤ k))
  obtain ⟨e0, e1, e2, e3, e4, _⟩ := hrel.now
  refine ⟨.slice v.fa v.fn v.fc, ?_, FO_V h2 _, hb⟩
  rw [e0, e1, e2, e3, e4]
theorem setV_c {w : World} {P Q : Nat → Prop} {A A2 : Option Addr} {c c2 : Nat} {ds : List S82} {l : List Int} {last ser h x0 x1 x2 x3 : Int} {x4 : Bool} (hbig : ds.length ≤ 1000000) (hV : Kd.V k82 82 w w.heap.size (fun k_ => P k_) (.slice A ds.length c) ds) (hl : Kd.V (Kd.int .i64) 3 w w.heap.size (fun k_ => Q k_) (.slice A2 l.length c2) l) :
    Calls Try.prog 17 #[.agg #[.slice A ds.length c, .int .i64 last, .int .i64 ser], .int .i64 h, .agg #[.int .i64 x0, .int .i64 x1, .int .i64 x2, .int .i64 x3, .bool x4, .slice A2 l.length c2]] w fun e w' => ∃ v0_ : Value, e = .returned (.tuple #[.agg #[v0_, .int .i64 last, .int .i64 ser], .int .i64 (stt ds h ⟨x0, x1, x2, x3, x4, l⟩).2]) ∧ Kd.V k82 82 w' w.heap.size (fun k_ => ((P k_ ∨ Q k_) ∨ w.heap.size ≤ k_)) v0_ (stt ds h ⟨x0, x1, x2, x3, x4, l⟩).1 ∧ Below w.heap.size w w' :=
  sSet (v := ⟨x0, x1, x2, x3, x4, A2, l.length, c2⟩) hbig (Kd.V_mono hV (fun k hk => (Or.inl hk : P k ∨ Q k))) (fun W2 h2 => V_FO x0 x1 x2 x3 x4 hl W2 (fun k hk hl => h2 k (Or.inr hk) hl))
end Go.Proofs.Ytkmjboeabmmecaa.MAll
