/- Who names whom: what the functions come to. Conditions: those of each lemma. -/
import Derived.Test.YtkmjboeabmmecaaHndF
import Derived.Maps.OwnIn
namespace Go.Proofs.Ytkmjboeabmmecaa.MAll
open Go.RowKit Go.Proofs.YtkmjboeabmmecaaW.PrintWords Go.Proofs.YtkmjboeabmmecaaW.PrintLast Go.Proofs.YtkmjboeabmmecaaW.PrintMore
attribute [local go_sem] max2_int min2_int max_two min_two max_three min_three max_four min_four
set_option linter.unusedVariables false
set_option linter.unusedSimpArgs false
attribute [local go_sem] Oper.semAt_some
open Go.Shelf Go.Proofs.Ytkmjboeabmmecaa
theorem KpE.refl (n₀ b4 : Nat) (own : Nat → Prop) (W : World) : KpE n₀ b4 own W W := ⟨Below.refl _ _, fun _ _ _ h _ _ => h, .inl rfl⟩
theorem KpE.set {n₀ b4 : Nat} {own : Nat → Prop} (W : World) (g : Nat) (v : Value) (hg : n₀ ≤ g) (ho : own g) (hr : rowOf b4 (W.setCell ⟨g, 0, none⟩ v) = rowOf b4 W) : KpE n₀ b4 own W (W.setCell ⟨g, 0, none⟩ v) :=
  ⟨(Below.refl _ _).setCell (p := ⟨g, 0, none⟩) hg _, fun k cs t hk hk2 _ => (Below.heap_setCell W ⟨g, 0, none⟩ v k (fun e => by subst e; exact hk2 ho)).trans hk, .inl hr⟩
theorem own_ne {W : World} {base g t t' size n : Nat} {v : Value} {xs : List Value} {cs : Array Value} (hr : W.ownsRow base t' size v n xs) (hb : W.heap[g]? = some (.cells cs t (0, 0))) (hne : t ≠ t') : some g ≠ v.ownBlock := fun e => by
  obtain ⟨c, hc⟩ := own_typed hr g e.symm
  rw [hb] at hc; cases hc; exact hne rfl
def outC (ds : List S82) (h : Int) : List Int := if (getd ds h).2 = 0 then nz (getd ds h).1.f5 else []
set_option maxRecDepth 100000 in
set_option maxHeartbeats 8000000 in
theorem rOut {W : World} {b : Nat} {P : Nat → Prop} {A : Option Addr} {c : Nat} {ds : List S82} {last ser h : Int} (hbig : ds.length ≤ 1000000) (hF : ∀ h, (getd ds h).1.f5.length ≤ 1000000) (hV : Kd.V k82 82 W b P (.slice A ds.length c) ds) :
    Calls Try.prog 36 #[.agg #[.slice A ds.length c, .int .i64 last, .int .i64 ser], .int .i64 h] W fun e W' => ∃ v, e = .returned v ∧ Kd.R (Kd.int .i64) 3 W' W.heap.size (fun _ => True) v (outC ds h) ∧ Below W.heap.size W W' := by
  obtain ⟨W0, hW0⟩ : ∃ W0, W.alloc (.cells #[.slice A ds.length c, .int .i64 last, .int .i64 ser] 26) = W0 := ⟨_, rfl⟩
  have HB0 := Aside0.mk (show Below W.heap.size W W0 by rw [← hW0]; exact (Below.refl W.heap.size W).alloc (Nat.le_refl _) _)
  have HG := Aside0.mk (sGet (W := W0) (P := fun k => P k ∧ k < W.heap.size) (last := last) (ser := ser) (h := h) hbig (Kd.V_below (Kd.V_bound hV) HB0.out))
  have HW := Aside0.mk hW0
  have hFh := hF h
  unfold outC
  obtain ⟨x, hx⟩ : ∃ x, x = getd ds h := ⟨_, rfl⟩
  rw [← hx] at HG hFh ⊢
  obtain ⟨⟨d0, d1, d2, d3, d4, l⟩, r2⟩ := x
  dsimp only at HG hFh ⊢
  have HFH := Aside0.mk hFh
  clear hV hW0 hx hbig hF hFh
  by_cases e : r2 = 0
  · rw [if_pos e]
    subst e
    have HN := Aside0.mk (show vec_Names.f l = some (nz l) by unfold vec_Names.f; rw [if_pos HFH.out])
    go_enter Try.func36, Try.ntmps36
    go_wp2_with (first | (go_at_call 23; rw [HW.out]; refine HG.out.mono ?_; rintro e W1 ⟨v, rfl, hrel, hb⟩; obtain ⟨v1, v2, v3, v4, v5, fa, fn, fc⟩ := v; obtain ⟨_, _, _, _, _, hn, hfc, hfC⟩ := (hrel.below hb (fun _ h => h)).now; dsimp only at hn hfc hfC ⊢; subst hn; have HFC := Aside0.mk hfC; have HFL := Aside0.mk hfc; have HB1 := Aside0.mk (HB0.out.trans (hb.mono HB0.out.size)); clear hb hrel hfc hfC) | (go_at_call 76; refine (vec_Names.calls _ _ l _ _ (Kd.C_below HFC.out ((Below.refl _ _).alloc (Nat.le_refl _) _)) HFL.out HN.out).mono ?_; rintro e W3 ⟨vn, rfl, hR, hd⟩; have HR3 := Aside0.mk hR; have HD := Aside0.mk hd; clear hR hd))
    go_ret
    have h2 := HB1.out.alloc HB1.out.size (.cells #[.int .i64 v1, .int .i64 v2, .int .i64 v3, .int .i64 v4, .bool v5, .slice fa l.length fc] 29)
    exact ⟨_, rfl, Kd.R_lower HR3.out h2.size, h2.trans (HD.out.mono h2.size)⟩
  · rw [if_neg e]
    have e1 : decide (r2 = 0) = false := decide_eq_false e
    have e2 : (r2 == 0) = false := by simpa using e
    go_enter Try.func36, Try.ntmps36
    go_wp2_with (first | (go_at_call 23; rw [HW.out]; refine HG.out.mono ?_; rintro e W1 ⟨v, rfl, hrel, hb⟩; obtain ⟨v1, v2, v3, v4, v5, fa, fn, fc⟩ := v; dsimp only; have HB1 := Aside0.mk (HB0.out.trans (hb.mono HB0.out.size)); clear hb hrel))
    go_ret
    exact ⟨_, rfl, Kd.R_nil _ _ _ _ _, HB1.out.alloc HB1.out.size _⟩
end Go.Proofs.Ytkmjboeabmmecaa.MAll
