/- The store: what it gets, sets and reads. Conditions: those of each lemma. -/
import Derived.Test.YtkmjboeabmmecaaMAllx10
import Derived.Test.YtkmjboeabmmecaaHndB
namespace Go.Proofs.Ytkmjboeabmmecaa.MAll
open Go.RowKit Go.Proofs.YtkmjboeabmmecaaW.PrintWords Go.Proofs.YtkmjboeabmmecaaW.PrintLast Go.Proofs.YtkmjboeabmmecaaW.PrintMore
attribute [local go_sem] max2_int min2_int max_two min_two max_three min_three max_four min_four
set_option linter.unusedVariables false
set_option linter.unusedSimpArgs false
attribute [local go_sem] Oper.semAt_some
open Go.Shelf Go.Proofs.Ytkmjboeabmmecaa
theorem list_of {α : Type} (n : Nat) (P : Nat → α → Prop) (h : ∀ j, j < n → ∃ x, P j x) : ∃ l : List α, l.length = n ∧ ∀ (j : Nat) x, l[j]? = some x → P j x := by
  induction n with
  | zero => exact ⟨[], rfl, fun j x e => by simp at e⟩
  | succ n ih =>
    obtain ⟨l, hl, hp⟩ := ih (fun j hj => h j (by omega))
    obtain ⟨x, hx⟩ := h n (by omega)
    refine ⟨l ++ [x], by simp [hl], fun j y e => ?_⟩
    by_cases hj : j < n
    · rw [List.getElem?_append_left (by omega)] at e; exact hp j y e
    · have hlt := (List.getElem?_eq_some_iff.mp e).1
      rw [List.length_append, hl] at hlt
      obtain rfl : j = n := by simp at hlt; omega
      rw [List.getElem?_append_right (by omega), hl, Nat.sub_self] at e
      simp at e
      rw [← e]; exact hx
def RelF (W : World) (a : Option Addr) (n c : Nat) (l : List Int) : Prop := n = l.length ∧ l.length ≤ c ∧ Kd.C (Kd.int .i64) W a l.length l
theorem RelF.below {W W' : World} {a : Option Addr} {n c : Nat} {l : List Int} (h : RelF W a n c l) (hb : Below W.heap.size W W') : RelF W' a n c l := ⟨h.1, h.2.1, Kd.C_below h.2.2 hb⟩
theorem RelF.nil (W : World) : RelF W none 0 0 [] := ⟨rfl, Nat.le_refl _, rfl, by decide, fun h => absurd h (by decide)⟩
def Rel29 (W : World) (r : RO) (d : S29) : Prop := r.ser = d.f0 ∧ r.str = d.f1 ∧ r.wk = d.f2 ∧ r.pr = d.f3 ∧ r.sd = d.f4 ∧ RelF W r.fa r.fn r.fc d.f5
def Rel82 (W : World) (r : SR) (d : S82) : Prop := r.f0 = d.f0 ∧ r.f1 = d.f1 ∧ Rel29 W r.f2 d.f2
theorem Rel29.below {W W' : World} {r : RO} {d : S29} (h : Rel29 W r d) (hb : Below W.heap.size W W') : Rel29 W' r d := ⟨h.1, h.2.1, h.2.2.1, h.2.2.2.1, h.2.2.2.2.1, h.2.2.2.2.2.below hb⟩
theorem Rel82.below {W W' : World} {r : SR} {d : S82} (h : Rel82 W r d) (hb : Below W.heap.size W W') : Rel82 W' r d := ⟨h.1, h.2.1, h.2.2.below hb⟩
theorem K82_raw {W : World} {d : S82} {cs : List Value} (h : k82.K W d cs) : ∃ r, kR.K W r cs ∧ Rel82 W r d := by
  obtain ⟨A, c, rfl, hl, hC⟩ := k82_open h
  exact ⟨⟨d.f0, d.f1, ⟨d.f2.f0, d.f2.f1, d.f2.f2, d.f2.f3, d.f2.f4, A, d.f2.f5.length, c⟩⟩, kR_mk W ⟨d.f0, d.f1, ⟨d.f2.f0, d.f2.f1, d.f2.f2, d.f2.f3, d.f2.f4, A, d.f2.f5.length, c⟩⟩, rfl, rfl, rfl, rfl, rfl, rfl, rfl, rfl, hl, hC⟩
theorem raw_K82 {W : World} {r : SR} {d : S82} {cs : List Value} (h : kR.K W r cs) (hr : Rel82 W r d) : k82.K W d cs := by
  obtain rfl := kR_open h
  obtain ⟨e0, e1, o0, o1, o2, o3, o4, o5, hl, hC⟩ := hr
  rw [e0, e1, o0, o1, o2, o3, o4, o5]
  exact k82_mk W d hl hC
theorem toRaw82 {W : World} {A : Option Addr} {n : Nat} {ds : List S82} (h : Kd.C k82 W A n ds) : ∃ rs : List SR, Kd.C kR W A n rs ∧ rs.length = ds.length ∧ ∀ (j : Nat) r d, rs[j]? = some r → ds[j]? = some d → Rel82 W r d := by
  obtain ⟨hn, hm, hr⟩ := h
  by_cases hz : 0 < n
  · obtain ⟨ad, rfl, hc⟩ := hr hz
    obtain ⟨rs, hl, hp⟩ := list_of (α := SR) n (fun j r => ∀ d, ds[j]? = some d → Rel82 W r d ∧ ∃ c, c.length = kR.sz ∧ kR.K W r c ∧ ∀ i u, c[i]? = some u → W.cell? (ad.add (j * kR.sz + i)) = some u) (fun j hj => by
      obtain ⟨c, hs, hk, hcell⟩ := hc j _ (List.getElem?_eq_getElem (by omega))
      obtain ⟨r, hkr, hrel⟩ := K82_raw hk
      refine ⟨r, fun d e => ?_⟩
      rw [List.getElem?_eq_getElem (by omega)] at e
      cases e
      exact ⟨hrel, c, hs, hkr, hcell⟩)
    refine ⟨rs, ⟨hl, hm, fun _ => ⟨ad, rfl, fun j p e => ?_⟩⟩, by omega, fun j r d e1 e2 => (hp j r e1 d e2).1⟩
    have hj := (List.getElem?_eq_some_iff.mp e).1
    exact (hp j p e _ (List.getElem?_eq_getElem (by omega))).2
  · obtain rfl : n = 0 := by omega
    exact ⟨[], ⟨rfl, hm, fun h => absurd h (by decide)⟩, by rw [hn]; rfl, fun j r d e => by simp at e⟩
theorem ofRaw82 {W : World} {A : Option Addr} {n : Nat} {rs : List SR} {ds : List S82} (h : Kd.C kR W A n rs) (hl : rs.length = ds.length) (hr : ∀ (j : Nat) r d, rs[j]? = some r → ds[j]? = some d → Rel82 W r d) : Kd.C k82 W A n ds := by
  obtain ⟨hn, hm, hc⟩ := h
  refine ⟨by omega, hm, fun hz => ?_⟩
  obtain ⟨ad, rfl, hcc⟩ := hc hz
  refine ⟨ad, rfl, fun j d e => ?_⟩
  have hj := (List.getElem?_eq_some_iff.mp e).1
  obtain ⟨c, hs, hk, hcell⟩ := hcc j _ (List.getElem?_eq_getElem (by omega))
  exact ⟨c, hs, raw_K82 hk (hr j _ d (List.getElem?_eq_getElem (by omega)) e), hcell⟩
theorem map_eq_of {α β γ : Type} {f : α → γ} {g : β → γ} {l : List α} {l' : List β} (hl : l.length = l'.length) (h : ∀ (j : Nat) x y, l[j]? = some x → l'[j]? = some y → f x = g y) : l.map f = l'.map g := by
  apply List.ext_getElem?
  intro j
  rw [List.getElem?_map, List.getElem?_map]
  by_cases hj : j < l.length
  · rw [List.getElem?_eq_getElem hj, List.getElem?_eq_getElem (by omega)]
    exact congrArg some (h j _ _ (List.getElem?_eq_getElem hj) (List.getElem?_eq_getElem (by omega)))
  · rw [List.getElem?_eq_none (by omega), List.getElem?_eq_none (by omega)]; rfl
theorem frs_congr {α β : Type} {st : α → Int} {st' : β → Int} {l : List α} {l' : List β} (hl : l.length = l'.length) (h : ∀ (j : Nat) x y, l[j]? = some x → l'[j]? = some y → st x = st' y) : frs st l = frs st' l' := by
  have e : ∀ {γ : Type} (f : γ → Int) (m : List γ), frs f m = (m.map f).findIdx? (· == 0) := fun f m => by unfold frs; rw [List.findIdx?_map]; rfl
  rw [e, e, map_eq_of hl h]
theorem fnd_congr {α β : Type} {st gen : α → Int} {st' gen' : β → Int} {l : List α} {l' : List β} (hl : l.length = l'.length) (h : ∀ (j : Nat) x y, l[j]? = some x → l'[j]? = some y → st x = st' y ∧ gen x = gen' y) (hh : Int) : fnd st gen l hh = fnd st' gen' l' hh := by
  have e : ∀ s, fdIn st gen l s hh = fdIn st' gen' l' s hh := by
    intro s
    unfold fdIn
    rw [hl]
    congr 1
    funext i
    by_cases hi : i < l.length
    · rw [List.getElem?_eq_getElem hi, List.getElem?_eq_getElem (by omega)]
      obtain ⟨e1, e2⟩ := h i _ _ (List.getElem?_eq_getElem hi) (List.getElem?_eq_getElem (by omega))
      simp only [e1, e2]
    · rw [List.getElem?_eq_none (by omega), List.getElem?_eq_none (by omega)]
  unfold fnd
  rw [e, e]
theorem unV {α : Type} {d : Kd α} {t base : Nat} {W : World} {ok : Nat → Prop} {v : Value} {l : List α} (h : Kd.V d t W base ok v l) : ∃ A c, v = .slice A l.length c ∧ l.length ≤ c ∧ Kd.C d W A l.length l := by
  obtain ⟨A, c, rfl, hl, hf⟩ := h
  exact ⟨A, c, rfl, hl, (Kd.V_reads' (show Kd.V d t W base ok (.slice A l.length c) l from ⟨A, c, rfl, hl, hf⟩)).2.2⟩
def AllRel (W : World) (rs : List SR) (ds : List S82) : Prop := rs.length = ds.length ∧ ∀ (j : Nat) r d, rs[j]? = some r → ds[j]? = some d → Rel82 W r d
theorem AllRel.below {W W' : World} {rs : List SR} {ds : List S82} (h : AllRel W rs ds) (hb : Below W.heap.size W W') : AllRel W' rs ds := ⟨h.1, fun j r d e1 e2 => (h.2 j r d e1 e2).below hb⟩
theorem AllRel.set {W : World} {rs : List SR} {ds : List S82} (h : AllRel W rs ds) (i : Nat) {r : SR} {d : S82} (hr : Rel82 W r d) : AllRel W (rs.set i r) (ds.set i d) := by
  refine ⟨by rw [List.length_set, List.length_set]; exact h.1, fun j a b e1 e2 => ?_⟩
  have hj := (List.getElem?_eq_some_iff.mp e1).1
  rw [List.length_set] at hj
  by_cases e : i = j
  · subst e
    rw [List.getElem?_set_self hj] at e1
    rw [List.getElem?_set_self (by rw [← h.1]; exact hj)] at e2
    cases e1; cases e2; exact hr
  · rw [List.getElem?_set_ne e] at e1 e2
    exact h.2 j a b e1 e2
theorem AllRel.at {W : World} {rs : List SR} {ds : List S82} (h : AllRel W rs ds) (i : Nat) (hi : i < ds.length) : Rel82 W (rs.getD i zR) (ds.getD i z82) := by
  have h1 := h.1
  rw [List.getD_eq_getElem?_getD, List.getD_eq_getElem?_getD, List.getElem?_eq_getElem (by omega), List.getElem?_eq_getElem hi]
  exact h.2 i _ _ (List.getElem?_eq_getElem (by omega)) (List.getElem?_eq_getElem hi)
theorem AllRel.frs {W : World} {rs : List SR} {ds : List S82} (h : AllRel W rs ds) : frs SR.f0 rs = frs S82.f0 ds := frs_congr h.1 (fun j x y e1 e2 => (h.2 j x y e1 e2).1)
theorem AllRel.fnd {W : World} {rs : List SR} {ds : List S82} (h : AllRel W rs ds) (hh : Int) : fnd SR.f0 SR.f1 rs hh = fnd S82.f0 S82.f1 ds hh := fnd_congr h.1 (fun j x y e1 e2 => ⟨(h.2 j x y e1 e2).1, (h.2 j x y e1 e2).2.1⟩) hh
theorem raw_of {W : World} {A : Option Addr} {ds : List S82} (h : Kd.C k82 W A ds.length ds) : ∃ rs : List SR, Kd.C kR W A rs.length rs ∧ AllRel W rs ds := by
  obtain ⟨rs, h1, h2, h3⟩ := toRaw82 h
  exact ⟨rs, by rw [h2]; exact h1, h2, h3⟩
theorem of_raw {W : World} {A : Option Addr} {rs : List SR} {ds : List S82} (h : Kd.C kR W A rs.length rs) (hr : AllRel W rs ds) : Kd.C k82 W A ds.length ds := by
  have := ofRaw82 h hr.1 hr.2
  rwa [hr.1] at this
def getv {α β : Type} (st gen : α → Int) (val : α → β) (z : β) (d : α) (l : List α) (h : Int) : β × Int :=
  if (fnd st gen l h).2 = 0 then (if st (l.getD (fnd st gen l h).1.toNat d) = 2 then (z, 3) else (val (l.getD (fnd st gen l h).1.toNat d), 0)) else (z, (fnd st gen l h).2)
theorem oFind {A : Option Addr} {c : Nat} {ds : List S82} {last h : Int} {W : World} (hbig : ds.length ≤ 1000000) (hC : Kd.C k82 W A ds.length ds) :
    Calls Try.prog 94 #[.agg #[.slice A ds.length c, .int .i64 last], .int .i64 h] W fun e W' => e = .returned (.tuple #[.int .i64 (fnd S82.f0 S82.f1 ds h).1, .int .i64 (fnd S82.f0 S82.f1 ds h).2]) ∧ Below W.heap.size W W' := by
  obtain ⟨rs, hr, ha⟩ := raw_of hC
  have := findw82 A c rs last h (by rw [ha.1]; exact hbig) W hr
  rw [ha.fnd, ha.1] at this
  exact this
def Ag (P : Nat → Prop) (W W2 : World) : Prop := ∀ k, P k → k < W.heap.size → W2.heap[k]? = W.heap[k]?
theorem Ag.of_below {P P' : Nat → Prop} {W W1 W2 : World} (hb : Below W.heap.size W W1) (hP : ∀ k, P k → P' k) (h : Ag P' W1 W2) : Ag P W W2 := fun k hk hl => (h k (hP k hk) (Nat.lt_of_lt_of_le hl hb.size)).trans (hb.block k hl)
def FO (W : World) (P : Nat → Prop) (v : RO) (d : S29) : Prop := ∀ W2, Ag P W W2 → Rel29 W2 v d
theorem FO.below {P P' : Nat → Prop} {W W1 : World} {v : RO} {d : S29} (h : FO W P v d) (hb : Below W.heap.size W W1) (hP : ∀ k, P k → P' k) : FO W1 P' v d := fun W2 h2 => h W2 (h2.of_below hb hP)
theorem FO.now {P : Nat → Prop} {W : World} {v : RO} {d : S29} (h : FO W P v d) : Rel29 W v d := h W (fun _ _ _ => rfl)
theorem FO.z (W : World) (P : Nat → Prop) : FO W P zRO z29 := fun W2 _ => ⟨rfl, rfl, rfl, rfl, rfl, RelF.nil W2⟩
theorem sr_inj {x y : SR} (e : [Value.int .i64 x.f0, .int .i64 x.f1, .int .i64 x.f2.ser, .int .i64 x.f2.str, .int .i64 x.f2.wk, .int .i64 x.f2.pr, .bool x.f2.sd, .slice x.f2.fa x.f2.fn x.f2.fc] = [Value.int .i64 y.f0, .int .i64 y.f1, .int .i64 y.f2.ser, .int .i64 y.f2.str, .int .i64 y.f2.wk, .int .i64 y.f2.pr, .bool y.f2.sd, .slice y.f2.fa y.f2.fn y.f2.fc]) : x = y := by
  obtain ⟨p0, p1, ⟨q0, q1, q2, q3, q4, q5, q6, q7⟩⟩ := x
  obtain ⟨s0, s1, ⟨t0, t1, t2, t3, t4, t5, t6, t7⟩⟩ := y
  simp only [List.cons.injEq, Value.int.injEq, Value.bool.injEq, Value.slice.injEq, true_and, and_true] at e
  obtain ⟨rfl, rfl, rfl, rfl, rfl, rfl, rfl, rfl, rfl, rfl⟩ := e
  rfl
theorem kR_uniq {W : World} {A : Option Addr} {n : Nat} {r1 r2 : List SR} (h1 : Kd.C kR W A n r1) (h2 : Kd.C kR W A n r2) : r1 = r2 := by
  apply List.ext_getElem (h1.1.trans h2.1.symm)
  intro j a b
  have hn := h1.1
  obtain ⟨ad, rfl, c1⟩ := h1.2.2 (by omega)
  obtain ⟨ad', e, c2⟩ := h2.2.2 (by omega)
  cases e
  obtain ⟨x, hx, kx, cx⟩ := c1 j _ (List.getElem?_eq_getElem a)
  obtain ⟨y, hy, ky, cy⟩ := c2 j _ (List.getElem?_eq_getElem b)
  have hxy : x = y := by
    apply List.ext_getElem (hx.trans hy.symm)
    intro i p q
    have e1 := cx i _ (List.getElem?_eq_getElem p)
    have e2 := cy i _ (List.getElem?_eq_getElem q)
    exact Option.some.inj (e1.symm.trans e2)
  subst hxy
  have e1 := kR_open kx
  have e2 := kR_open ky
  rw [e1] at e2
  exact sr_inj e2
theorem kR_move {W W2 : World} {A : Option Addr} {n : Nat} {rs : List SR} (h : Kd.C kR W A n rs) (hw : ∀ ad, A = some ad → 0 < n → W2.heap[ad.block]? = W.heap[ad.block]?) : Kd.C kR W2 A n rs := by
  refine ⟨h.1, h.2.1, fun hz => ?_⟩
  obtain ⟨ad, rfl, hc⟩ := h.2.2 hz
  refine ⟨ad, rfl, fun j p hj => ?_⟩
  obtain ⟨c, h1, h2, h3⟩ := hc j p hj
  exact ⟨c, h1, kR_open h2 ▸ kR_mk W2 p, fun i u hu => (World.cell?_of_block (a := ad.add (j * kR.sz + i)) (by rw [add_block]; exact hw ad rfl hz)).trans (h3 i u hu)⟩
theorem rawF {W : World} {b : Nat} {P : Nat → Prop} {A : Option Addr} {n c : Nat} {ds : List S82} (hV : Kd.V k82 82 W b P (.slice A n c) ds) : n = ds.length ∧ n ≤ c ∧ ∃ rs : List SR, ∀ W2, Ag P W W2 → Kd.C kR W2 A rs.length rs ∧ AllRel W2 rs ds := by
  have hV0 := hV
  obtain ⟨A', c', e, hl, hF⟩ := hV
  injection e with e1 e2 e3
  subst e1 e2 e3
  obtain ⟨rs, h1, h2⟩ := raw_of (hF W (fun _ _ _ => rfl))
  refine ⟨rfl, hl, rs, fun W2 hw => ?_⟩
  have m1 : Kd.C kR W2 A rs.length rs := kR_move h1 (fun ad hA hz => by
    subst hA
    by_cases hp : P ad.block
    · have hlt : ad.block < W.heap.size := by
        obtain ⟨ad', e', hc⟩ := h1.2.2 hz
        cases e'
        obtain ⟨x, hx, kx, cx⟩ := hc 0 _ (List.getElem?_eq_getElem hz)
        have hx0 : 0 < x.length := by rw [hx]; decide
        have := cx 0 _ (List.getElem?_eq_getElem hx0)
        exact World.block_lt_of_cell? W _ this
      exact hw _ hp hlt
    · exact absurd rfl (Kd.V_away hV0 (g := ad.block) (fun k hk e => hp (e ▸ hk)) (by rw [← h2.1]; exact hz) (by decide)))
  obtain ⟨r2, q1, q2⟩ := raw_of (hF W2 (fun k hk hlt => hw k hk hlt))
  have hlen : rs.length = r2.length := h2.1.trans q2.1.symm
  rw [← hlen] at q1
  have := kR_uniq m1 q1
  subst this
  exact ⟨m1, q2⟩
theorem liftV {W : World} {b : Nat} {ok : Nat → Prop} {v : Value} {rs : List SR} {ds : List S82} (hV : Kd.V kR 82 W b ok v rs) (ha : ∀ W2, Ag ok W W2 → AllRel W2 rs ds) : Kd.V k82 82 W b ok v ds := by
  obtain ⟨A, c, rfl, hl, hf⟩ := hV
  have h1 := (ha W (fun _ _ _ => rfl)).1
  exact ⟨A, c, by rw [h1], by rw [← h1]; exact hl, fun W2 h2 => of_raw (hf W2 h2) (ha W2 h2)⟩
def tak (ds : List S82) (d : S29) : List S82 × Int × Int := match frs S82.f0 ds with
  | some i => (ds.set i ⟨1, (ds.getD i z82).f1, d⟩, pk (i : Int) (ds.getD i z82).f1, 0)
  | none => (ds, 0, 4)
theorem oTake {W : World} {b : Nat} {P : Nat → Prop} {A : Option Addr} {c : Nat} {ds : List S82} {last : Int} {v : RO} {d : S29} (hbig : ds.length ≤ 1000000) (hV : Kd.V k82 82 W b P (.slice A ds.length c) ds) (hv : FO W P v d) :
    Calls Try.prog 71 #[.agg #[.slice A ds.length c, .int .i64 last], .agg #[.int .i64 v.ser, .int .i64 v.str, .int .i64 v.wk, .int .i64 v.pr, .bool v.sd, .slice v.fa v.fn v.fc]] W fun e W' => ∃ v0, e = .returned (.tuple #[.agg #[v0, .int .i64 last], .int .i64 (tak ds d).2.1, .int .i64 (tak ds d).2.2]) ∧ Kd.V k82 82 W' W.heap.size (fun k => P k ∨ W.heap.size ≤ k) v0 (tak ds d).1 ∧ Below W.heap.size W W' := by
  obtain ⟨_, hc, rs, hF⟩ := rawF hV
  have ha := (hF W (fun _ _ _ => rfl)).2
  have hfr := ha.frs
  have hVR : Kd.V kR 82 W W.heap.size (fun k => P k) (.slice A rs.length c) rs := ⟨A, c, rfl, by rw [ha.1]; exact hc, fun W2 h2 => (hF W2 h2).1⟩
  cases hf : frs S82.f0 ds with
  | some i =>
    rw [hf] at hfr
    have hi : i < ds.length := by unfold frs at hf; exact (List.findIdx?_eq_some_iff_getElem.mp hf).1
    have hat := ha.at i hi
    have hk : tak ds d = (ds.set i ⟨1, (ds.getD i z82).f1, d⟩, pk (i : Int) (ds.getD i z82).f1, 0) := by unfold tak; rw [hf]
    rw [hk]
    have := takew82 P A c rs last v (by rw [ha.1]; exact hbig) W hVR _ _ _ (by rw [hfr])
    rw [ha.1] at this
    refine this.mono ?_
    rintro e W' ⟨v0, rfl, hV1, hb⟩
    exact ⟨v0, by rw [hat.2.1], liftV hV1 (fun W2 h2 => (hF W2 (h2.of_below hb (fun k hk => .inl hk))).2.set i (r := ⟨1, (rs.getD i zR).f1, v⟩) (d := ⟨1, (ds.getD i z82).f1, d⟩) ⟨rfl, hat.2.1, hv W2 (h2.of_below hb (fun k hk => .inl hk))⟩), hb⟩
  | none =>
    rw [hf] at hfr
    have hk : tak ds d = (ds, 0, 4) := by unfold tak; rw [hf]
    rw [hk]
    have := takew82 P A c rs last v (by rw [ha.1]; exact hbig) W hVR _ _ _ (by rw [hfr])
    rw [ha.1] at this
    refine this.mono ?_
    rintro e W' ⟨v0, rfl, hV1, hb⟩
    exact ⟨v0, rfl, liftV hV1 (fun W2 h2 => (hF W2 (h2.of_below hb (fun k hk => .inl hk))).2), hb⟩
def stt (ds : List S82) (h : Int) (d : S29) : List S82 × Int := if (fnd S82.f0 S82.f1 ds h).2 = 0 then (ds.set (fnd S82.f0 S82.f1 ds h).1.toNat ⟨(ds.getD (fnd S82.f0 S82.f1 ds h).1.toNat z82).f0, (ds.getD (fnd S82.f0 S82.f1 ds h).1.toNat z82).f1, d⟩, 0) else (ds, (fnd S82.f0 S82.f1 ds h).2)
theorem fnd_lt {α : Type} {st gen : α → Int} {l : List α} {h : Int} (e : (fnd st gen l h).2 = 0) : ∃ i : Nat, i < l.length ∧ fnd st gen l h = ((i : Int), 0) := by
  have hlt : ∀ s i, fdIn st gen l s h = some i → i < l.length := fun s i e => by
    have := List.mem_of_find?_eq_some e
    simpa using this
  unfold fnd at e ⊢
  by_cases hz : h = 0
  · rw [if_pos hz] at e; exact absurd e (by decide)
  · rw [if_neg hz] at e ⊢
    cases h1 : fdIn st gen l 1 h with
    | some i => exact ⟨i, hlt _ _ h1, rfl⟩
    | none =>
      rw [h1] at e
      cases h2 : fdIn st gen l 2 h with
      | some i => exact ⟨i, hlt _ _ h2, rfl⟩
      | none => rw [h2] at e; exact absurd e (by decide)
theorem oSet {W : World} {b : Nat} {P : Nat → Prop} {A : Option Addr} {c : Nat} {ds : List S82} {last h : Int} {v : RO} {d : S29} (hbig : ds.length ≤ 1000000) (hV : Kd.V k82 82 W b P (.slice A ds.length c) ds) (hv : FO W P v d) :
    Calls Try.prog 55 #[.agg #[.slice A ds.length c, .int .i64 last], .int .i64 h, .agg #[.int .i64 v.ser, .int .i64 v.str, .int .i64 v.wk, .int .i64 v.pr, .bool v.sd, .slice v.fa v.fn v.fc]] W fun e W' => ∃ v0, e = .returned (.tuple #[.agg #[v0, .int .i64 last], .int .i64 (stt ds h d).2]) ∧ Kd.V k82 82 W' W.heap.size (fun k => P k ∨ W.heap.size ≤ k) v0 (stt ds h d).1 ∧ Below W.heap.size W W' := by
  obtain ⟨_, hc, rs, hF⟩ := rawF hV
  have ha := (hF W (fun _ _ _ => rfl)).2
  have hfd := ha.fnd h
  have hVR : Kd.V kR 82 W W.heap.size (fun k => P k) (.slice A rs.length c) rs := ⟨A, c, rfl, by rw [ha.1]; exact hc, fun W2 h2 => (hF W2 h2).1⟩
  have := setw82 P A c rs last h v (by rw [ha.1]; exact hbig) W hVR
  rw [hfd, ha.1] at this
  unfold stt
  by_cases e : (fnd S82.f0 S82.f1 ds h).2 = 0
  · obtain ⟨i, hi, e'⟩ := fnd_lt e
    rw [e'] at this ⊢
    simp only [Int.toNat_natCast, if_true] at this ⊢
    refine this.mono ?_
    rintro e W' ⟨A', c', rfl, hV1, hb⟩
    have hat := ha.at i hi
    exact ⟨_, rfl, liftV hV1 (fun W2 h2 => (hF W2 (h2.of_below hb (fun k hk => .inl hk))).2.set i (r := ⟨(rs.getD i zR).f0, (rs.getD i zR).f1, v⟩) (d := ⟨(ds.getD i z82).f0, (ds.getD i z82).f1, d⟩) ⟨hat.1, hat.2.1, hv W2 (h2.of_below hb (fun k hk => .inl hk))⟩), hb⟩
  · rw [if_neg e] at this
    simp only [if_neg e]
    refine this.mono ?_
    rintro e W' ⟨A', c', rfl, hV1, hb⟩
    exact ⟨_, rfl, liftV hV1 (fun W2 h2 => (hF W2 (h2.of_below hb (fun k hk => .inl hk))).2), hb⟩
theorem put6 {W : World} {g t : Nat} {a0 a1 a2 a3 a4 a5 : Value} (h : W.heap[g]? = some (.cells #[a0, a1, a2, a3, a4, a5] t (0, 0))) (v : RO) :
    ((((((W.setCell ⟨g, 0, none⟩ (.int .i64 v.ser)).setCell ⟨g, 1, none⟩ (.int .i64 v.str)).setCell ⟨g, 2, none⟩ (.int .i64 v.wk)).setCell ⟨g, 3, none⟩ (.int .i64 v.pr)).setCell ⟨g, 4, none⟩ (.bool v.sd)).setCell ⟨g, 5, none⟩ (.slice v.fa v.fn v.fc)).heap[g]? = some (.cells #[.int .i64 v.ser, .int .i64 v.str, .int .i64 v.wk, .int .i64 v.pr, .bool v.sd, .slice v.fa v.fn v.fc] t (0, 0)) :=
  blk_put (blk_put (blk_put (blk_put (blk_put (blk_put h 0 _ rfl) 1 _ rfl) 2 _ rfl) 3 _ rfl) 4 _ rfl) 5 _ rfl
theorem below6 {W0 W : World} {n g : Nat} (h : Below n W0 W) (hg : n ≤ g) (v : RO) : Below n W0 ((((((W.setCell ⟨g, 0, none⟩ (.int .i64 v.ser)).setCell ⟨g, 1, none⟩ (.int .i64 v.str)).setCell ⟨g, 2, none⟩ (.int .i64 v.wk)).setCell ⟨g, 3, none⟩ (.int .i64 v.pr)).setCell ⟨g, 4, none⟩ (.bool v.sd)).setCell ⟨g, 5, none⟩ (.slice v.fa v.fn v.fc)) :=
  (((((h.setCell (p := ⟨g, 0, none⟩) hg _).setCell (p := ⟨g, 1, none⟩) hg _).setCell (p := ⟨g, 2, none⟩) hg _).setCell (p := ⟨g, 3, none⟩) hg _).setCell (p := ⟨g, 4, none⟩) hg _).setCell (p := ⟨g, 5, none⟩) hg _
def getd (ds : List S82) (h : Int) : S29 × Int := getv S82.f0 S82.f1 S82.f2 z29 z82 ds h
set_option maxRecDepth 100000 in
set_option maxHeartbeats 4000000 in
theorem oGet {W : World} {b : Nat} {P : Nat → Prop} {A : Option Addr} {c : Nat} {ds : List S82} {last h : Int} (hbig : ds.length ≤ 1000000) (hV : Kd.V k82 82 W b P (.slice A ds.length c) ds) :
    Calls Try.prog 61 #[.agg #[.slice A ds.length c, .int .i64 last], .int .i64 h] W fun e W' => ∃ v : RO, e = .returned (.tuple #[.agg #[.int .i64 v.ser, .int .i64 v.str, .int .i64 v.wk, .int .i64 v.pr, .bool v.sd, .slice v.fa v.fn v.fc], .int .i64 (getd ds h).2]) ∧ FO W P v (getd ds h).1 ∧ Below W.heap.size W W' := by
  obtain ⟨W0, hW0⟩ : ∃ W0, (W.alloc (.cells #[.slice A ds.length c, .int .i64 last] 24)).alloc (.cells #[.int .i64 0, .int .i64 0, .int .i64 0, .int .i64 0, .bool false, .slice none 0 0] 29) = W0 := ⟨_, rfl⟩
  have HB0 := Aside0.mk (show Below W.heap.size W W0 by rw [← hW0]; exact ((Below.refl W.heap.size W).alloc (Nat.le_refl _) _).alloc (by simp) _)
  have HZ := Aside0.mk (show W0.heap.size = W.heap.size + 1 + 1 by rw [← hW0]; simp)
  have B2 := Aside0.mk (show W0.heap[W.heap.size]? = some (.cells #[.slice A ds.length c, .int .i64 last] 24 (0, 0)) by rw [← hW0]; exact blk_alloc (blk_new W _) _)
  have B4 := Aside0.mk (show W0.heap[W.heap.size + 1]? = some (.cells #[.int .i64 0, .int .i64 0, .int .i64 0, .int .i64 0, .bool false, .slice none 0 0] 29 (0, 0)) by rw [← hW0]; have h := blk_new (W.alloc (.cells #[.slice A ds.length c, .int .i64 last] 24)) (.cells #[.int .i64 0, .int .i64 0, .int .i64 0, .int .i64 0, .bool false, .slice none 0 0] 29); rw [World.size_alloc] at h; exact h)
  obtain ⟨_, _, rs, hraw⟩ := rawF hV
  have hC := (Kd.V_reads' hV).2.2
  have HC := Aside0.mk (Kd.C_below hC HB0.out)
  have HF := oFind (last := last) (h := h) (c := c) hbig HC.out
  have HW := Aside0.mk hW0
  have hz0 : (zRO : RO) = ⟨0, 0, 0, 0, false, none, 0, 0⟩ := rfl
  by_cases e : (fnd S82.f0 S82.f1 ds h).2 = 0
  · obtain ⟨i, hi, e'⟩ := fnd_lt e
    rw [e'] at HF
    dsimp only at HF
    obtain ⟨ad, rfl, _⟩ := hC.2.2 (by omega)
    obtain ⟨hr, ha⟩ := hraw W (fun _ _ _ => rfl)
    have hat := ha.at i hi
    have HAT := Aside0.mk (show FO W P (rs.getD i zR).f2 (ds.getD i z82).f2 from fun W2 h2 => ((hraw W2 h2).2.at i hi).2.2)
    have hst : (rd_TR rs (i : Int)).f0 = (ds.getD i z82).f0 := by unfold rd_TR; rw [Int.toNat_natCast]; exact hat.1
    obtain ⟨x, hx⟩ : ∃ x, x = rd_TR rs (i : Int) := ⟨_, rfl⟩
    have hxr : x = rs.getD i zR := by rw [hx]; unfold rd_TR; rw [Int.toNat_natCast]
    rw [← hxr] at HAT
    rw [← hx] at hst
    have HHF := Aside0.mk HF
    have HR := Aside0.mk (Kd.C_below hr HB0.out)
    have HX := Aside0.mk hx
    have hlen := ha.1
    have HL := Aside0.mk hlen
    by_cases s2 : (ds.getD i z82).f0 = 2
    · have hg : getd ds h = (z29, 3) := by unfold getd getv; rw [e']; simp only [Int.toNat_natCast, if_true]; rw [if_pos s2]
      rw [hg]
      have hs2 : x.f0 = 2 := hst.trans s2
      clear hr hx hxr hst hat s2 hg hC hV hraw hW0 HF ha e e' hbig hlen
      go_enter Try.func61, Try.ntmps61
      go_wp2_with (go_at_call 94; rw [HW.out]; refine HHF.out.mono ?_; rintro e W1 ⟨rfl, hb⟩; obtain ⟨ad', eA, k0, k1, k2, k3, k4, k5, k6, k7⟩ := at_TR (Kd.C_below HR.out hb) (i : Int) (by omega) (by have := HL.out; omega); cases eA; rw [Int.toNat_natCast] at k0 k1 k2 k3 k4 k5 k6 k7; rw [← HX.out] at k0 k1 k2 k3 k4 k5 k6 k7; rw [hs2] at k0; have R4 := Aside0.mk (blk_below B4.out hb); have r2 := blk_below B2.out hb; have c0 := (blk_cell r2 0).trans rfl; have c1 := (blk_cell r2 1).trans rfl; have HB1 := Aside0.mk (HB0.out.trans (hb.mono HB0.out.size)); have d0 := (blk_cell R4.out 0).trans rfl; have d1 := (blk_cell R4.out 1).trans rfl; have d2 := (blk_cell R4.out 2).trans rfl; have d3 := (blk_cell R4.out 3).trans rfl; have d4 := (blk_cell R4.out 4).trans rfl; have d5 := (blk_cell R4.out 5).trans rfl; have f0 := blk_frozen R4.out 0; have f1 := blk_frozen R4.out 1; have f2 := blk_frozen R4.out 2; have f3 := blk_frozen R4.out 3; have f4 := blk_frozen R4.out 4; have f5 := blk_frozen R4.out 5; clear hb r2)
      refine bodyPost_ret (results_ct rfl _ _ (W.heap.size + 1) 29 #[.int .i64 0, .int .i64 0, .int .i64 0, .int .i64 0, .bool false, .slice none 0 0] (0, 0) _ rfl (put6 R4.out zRO) Try.underlying29 rfl (by kernel_rfl)) rfl ?_
      exact ⟨zRO, rfl, FO.z _ _, below6 HB1.out (by omega) zRO⟩
    · have hg : getd ds h = ((ds.getD i z82).f2, 0) := by unfold getd getv; rw [e']; simp only [Int.toNat_natCast, if_true]; rw [if_neg s2]
      rw [hg]
      have hs2 : decide (x.f0 = 2) = false := decide_eq_false (by rw [hst]; exact s2)
      have hs3 : (x.f0 == 2) = false := by rw [hst]; simpa using s2
      clear hr hx hxr hst hat s2 hg hC hV hraw hW0 HF ha e e' hbig hlen
      go_enter Try.func61, Try.ntmps61
      go_wp2_with (go_at_call 94; rw [HW.out]; refine HHF.out.mono ?_; rintro e W1 ⟨rfl, hb⟩; obtain ⟨ad', eA, k0, k1, k2, k3, k4, k5, k6, k7⟩ := at_TR (Kd.C_below HR.out hb) (i : Int) (by omega) (by have := HL.out; omega); cases eA; rw [Int.toNat_natCast] at k0 k1 k2 k3 k4 k5 k6 k7; rw [← HX.out] at k0 k1 k2 k3 k4 k5 k6 k7; have R4 := Aside0.mk (blk_below B4.out hb); have r2 := blk_below B2.out hb; have c0 := (blk_cell r2 0).trans rfl; have c1 := (blk_cell r2 1).trans rfl; have HB1 := Aside0.mk (HB0.out.trans (hb.mono HB0.out.size)); have d0 := (blk_cell R4.out 0).trans rfl; have d1 := (blk_cell R4.out 1).trans rfl; have d2 := (blk_cell R4.out 2).trans rfl; have d3 := (blk_cell R4.out 3).trans rfl; have d4 := (blk_cell R4.out 4).trans rfl; have d5 := (blk_cell R4.out 5).trans rfl; have f0 := blk_frozen R4.out 0; have f1 := blk_frozen R4.out 1; have f2 := blk_frozen R4.out 2; have f3 := blk_frozen R4.out 3; have f4 := blk_frozen R4.out 4; have f5 := blk_frozen R4.out 5; clear hb r2)
      refine bodyPost_ret (results_ct rfl _ _ (W.heap.size + 1) 29 #[.int .i64 x.f2.ser, .int .i64 x.f2.str, .int .i64 x.f2.wk, .int .i64 x.f2.pr, .bool x.f2.sd, .slice x.f2.fa x.f2.fn x.f2.fc] (0, 0) _ rfl (put6 R4.out x.f2) Try.underlying29 rfl (by kernel_rfl)) rfl ?_
      exact ⟨x.f2, rfl, HAT.out, below6 HB1.out (by omega) x.f2⟩
  · have hg : getd ds h = (z29, (fnd S82.f0 S82.f1 ds h).2) := by unfold getd getv; rw [if_neg e]
    rw [hg]
    obtain ⟨r1, hr1⟩ : ∃ r, r = (fnd S82.f0 S82.f1 ds h).1 := ⟨_, rfl⟩
    obtain ⟨r2, hr2⟩ : ∃ r, r = (fnd S82.f0 S82.f1 ds h).2 := ⟨_, rfl⟩
    rw [← hr1, ← hr2] at HF
    rw [← hr2] at e ⊢
    have hs2 : decide (r2 = 0) = false := decide_eq_false e
    have hs3 : (r2 == 0) = false := by simpa using e
    have HHF := Aside0.mk HF
    clear HF hC hV hraw hW0 hr1 hr2 hg e hbig
    go_enter Try.func61, Try.ntmps61
    go_wp2_with (go_at_call 94; rw [HW.out]; refine HHF.out.mono ?_; rintro e W1 ⟨rfl, hb⟩; have R4 := Aside0.mk (blk_below B4.out hb); have HB1 := Aside0.mk (HB0.out.trans (hb.mono HB0.out.size)); have d0 := (blk_cell R4.out 0).trans rfl; have d1 := (blk_cell R4.out 1).trans rfl; have d2 := (blk_cell R4.out 2).trans rfl; have d3 := (blk_cell R4.out 3).trans rfl; have d4 := (blk_cell R4.out 4).trans rfl; have d5 := (blk_cell R4.out 5).trans rfl; have f0 := blk_frozen R4.out 0; have f1 := blk_frozen R4.out 1; have f2 := blk_frozen R4.out 2; have f3 := blk_frozen R4.out 3; have f4 := blk_frozen R4.out 4; have f5 := blk_frozen R4.out 5; clear hb)
    refine bodyPost_ret (results_ct rfl _ _ (W.heap.size + 1) 29 #[.int .i64 0, .int .i64 0, .int .i64 0, .int .i64 0, .bool false, .slice none 0 0] (0, 0) _ rfl (put6 R4.out zRO) Try.underlying29 rfl (by kernel_rfl)) rfl ?_
    exact ⟨zRO, rfl, FO.z _ _, below6 HB1.out (by omega) zRO⟩
def vec_With.f (l0 : List Int) (a1 : Int) (a2 : Int) : Option (List Int × Int) := if 0 ≤ a1 ∧ a1 < (l0.length : Int) then (if l0.length ≤ 1000000 then some (l0.set a1.toNat a2, 0) else none) else some (l0, 5)
theorem vec_With.has (l : List Int) (k : Int) : vec_has.f l k = some (decide (0 ≤ k ∧ k < (l.length : Int))) := by
  unfold vec_has.f
  by_cases h : k ≥ 0
  · rw [if_pos h]; congr 1; rw [decide_eq_decide]; exact ⟨fun g => ⟨h, g⟩, fun g => g.2⟩
  · rw [if_neg h]; congr 1; exact (decide_eq_false (fun g => h g.1)).symm
set_option maxHeartbeats 8000000 in
set_option maxRecDepth 100000 in
theorem vec_With.calls (P0_ : Nat → Prop) (A0 : Option Addr) (c0 : Nat) (l0 : List Int) (a1 : Int) (a2 : Int) (r1 : List Int) (r2 : Int) (w : World) (hs0 : Kd.V (Kd.int .i64) 3 w w.heap.size (fun k_ => P0_ k_) (.slice A0 l0.length c0) l0) (h : vec_With.f l0 a1 a2 = some (r1, r2)) :
    Calls Try.prog 88 #[.slice A0 l0.length c0, .int .i64 a1, .int .i64 a2] w fun e w' => ∃ v0_ : Value, e = .returned (.tuple #[v0_, .int .i64 r2]) ∧ Kd.V (Kd.int .i64) 3 w' w.heap.size (fun k_ => (P0_ k_ ∨ w.heap.size ≤ k_)) v0_ r1 ∧ Below w.heap.size w w' := by
  unfold vec_With.f at h
  have HV := Aside0.mk hs0
  have hr := (Kd.V_reads' hs0).2.2
  have hc := (Kd.V_reads' hs0).2.1
  clear hs0
  have HR := Aside0.mk hr
  have HC := Aside0.mk hc
  clear hr hc
  by_cases c3 : 0 ≤ a1 ∧ a1 < (l0.length : Int)
  · rw [if_pos c3] at h
    by_cases c4 : l0.length ≤ 1000000
    · rw [if_pos c4] at h
      simp only [Option.some.injEq, Prod.mk.injEq] at h
      obtain ⟨rfl, rfl⟩ := h
      have HH := Aside0.mk ((vec_With.has l0 a1).trans (by rw [decide_eq_true c3]))
      have C3 := Aside0.mk c3
      have info3s := Aside0.mk (show (Try.prog.info? 3).map (·.size) = some 1 by kernel_rfl)
      have C4 := Aside0.mk c4
      obtain ⟨q1, q2⟩ := c3
      have E2 := Aside0.mk (show l0.take (min l0.length (List.replicate (l0.length : Int).toNat (0 : Int)).length) ++ (List.replicate (l0.length : Int).toNat (0 : Int)).drop (min l0.length (List.replicate (l0.length : Int).toNat (0 : Int)).length) = l0 by simp)
      go_enter Try.func88, Try.ntmps88
      go_wp2_with (first | (go_at_call 118; (with_reducible refine (vec_has.calls A0 c0 l0 a1 true _ HR.out HC.out HH.out).mono ?_); rintro e w' ⟨rfl, ⟨nd, rfl⟩⟩) | ((with_reducible refine gate_dst (N := 16) rfl ?_); refine Kd.R_make (Kd.int .i64) _ 3 rfl (N := 16) rfl 27 _ _ rfl (l0.length : Int) rfl rfl Try.underlying27 (.int .i64 0) 8 info3 rfl (by decide) (by omega) 0 (ok := fun k => w.heap.size ≤ k) (okp := fun k => w.heap.size ≤ k) rfl (fun _ hk => hk) (Nat.le_refl _) (by omega) (by have := C4.out; rw [Int.toNat_natCast]; omega) (Below.refl _ _) (Nat.le_refl _) ?_; intro v1 w1 ho1 hb1 hg1 _; have HO1 := Aside0.mk ho1; have HB1 := Aside0.mk hb1; have HR1 := Aside0.mk (Kd.C_below (Kd.C_drewN HR.out nd) hb1); clear ho1 hb1 hg1) | ((with_reducible refine gate_dst (N := 19) rfl ?_); refine Kd.R_copy (enc := Value.int .i64) (h1 := fun _ => rfl) (0 : Int) (w.drewN nd).heap.size rfl (.tmp 17) (.tmp 18) 27 27 3 rfl Try.underlying27 info3s.out v1 (List.replicate (l0.length : Int).toNat (0 : Int)) l0 A0 l0.length c0 (fun k => w.heap.size ≤ k) rfl rfl HO1.out HR1.out HB1.out HB1.out.size ?_; intro w2 ho2 hb2 _; rw [E2.out] at ho2; obtain ⟨g, cap, rfl, hgb, hgl, _⟩ := Kd.R_form ho2 (by omega); have hcell := (Kd.R_cell (0 : Int) ho2 a1 q1 q2).1; have hfz := (Kd.R_cell (0 : Int) ho2 a1 q1 q2).2; have HO2 := Aside0.mk ho2; have HB2 := Aside0.mk hb2; have HGB := Aside0.mk hgb; clear ho2 hb2 hgb HO1 HB1))
      go_ret2
      exact ⟨_, rfl, Kd.V_mono (Kd.R_V (Kd.R_putg HO2.out a1 a2).1) (fun k hk => .inr hk), below_set ((pw_below_drewN (Below.refl _ _) nd).trans HB2.out) HGB.out⟩
    · rw [if_neg c4] at h
      exact absurd h (by simp)
  · rw [if_neg c3] at h
    simp only [Option.some.injEq, Prod.mk.injEq] at h
    obtain ⟨rfl, rfl⟩ := h
    have HH := Aside0.mk ((vec_With.has l0 a1).trans (by rw [decide_eq_false c3]))
    clear c3
    go_enter Try.func88, Try.ntmps88
    go_wp2_with (go_at_call 118; (with_reducible refine (vec_has.calls A0 c0 l0 a1 false _ HR.out HC.out HH.out).mono ?_); rintro e w' ⟨rfl, ⟨nd, rfl⟩⟩)
    go_ret2
    exact ⟨_, rfl, Kd.V_mono (Kd.V_drewN HV.out _) (fun _ hk => .inl hk), pw_below_drewN (Below.refl _ _) _⟩
def wth (l : List Int) (k h : Int) : List Int × Int := if 0 ≤ k ∧ k < (l.length : Int) then (l.set k.toNat h, 0) else (l, 5)
theorem blk_fr2 {W : World} {g : Nat} {o : Obj} (h : W.heap[g]? = some o) (b j : Nat) (u : Value) (hne : g ≠ b) : (W.setCell ⟨b, j, none⟩ u).heap[g]? = some o := (Below.heap_setCell W ⟨b, j, none⟩ u g hne).trans h
theorem FO.back {P : Nat → Prop} {W W0 : World} {v : RO} {d : S29} (h : FO W0 (fun k => P k ∧ k < W.heap.size) v d) (hb : Below W.heap.size W W0) : FO W P v d := fun W2 h2 => h W2 (fun k hk _ => (h2 k hk.1 hk.2).trans (hb.block k hk.2).symm)
theorem FO.bound {P : Nat → Prop} {W : World} {v : RO} {d : S29} (h : FO W P v d) : FO W (fun k => P k ∧ k < W.heap.size) v d := fun W2 h2 => h W2 (fun k hk hl => h2 k ⟨hk, hl⟩ hl)
theorem V_box {α : Type} {d : Kd α} {t b : Nat} {W : World} {ok : Nat → Prop} {v : Value} {l : List α} (h : Kd.V d t W b ok v l) (g j : Nat) (hg : ∀ k, ok k → k ≠ g) (u : Value) : Kd.V d t (W.setCell ⟨g, j, none⟩ u) b ok v l := Kd.V_far (p := ⟨g, j, none⟩) h (fun k hk => hg k hk) u
set_option maxRecDepth 100000 in
set_option maxHeartbeats 4000000 in
theorem sSet {W : World} {b : Nat} {P : Nat → Prop} {A : Option Addr} {c : Nat} {ds : List S82} {last ser h : Int} {v : RO} {d : S29} (hbig : ds.length ≤ 1000000) (hV : Kd.V k82 82 W b P (.slice A ds.length c) ds) (hv : FO W P v d) :
    Calls Try.prog 17 #[.agg #[.slice A ds.length c, .int .i64 last, .int .i64 ser], .int .i64 h, .agg #[.int .i64 v.ser, .int .i64 v.str, .int .i64 v.wk, .int .i64 v.pr, .bool v.sd, .slice v.fa v.fn v.fc]] W fun e W' => ∃ v0, e = .returned (.tuple #[.agg #[v0, .int .i64 last, .int .i64 ser], .int .i64 (stt ds h d).2]) ∧ Kd.V k82 82 W' W.heap.size (fun k => P k ∨ W.heap.size ≤ k) v0 (stt ds h d).1 ∧ Below W.heap.size W W' := by
  obtain ⟨W0, hW0⟩ : ∃ W0, ((W.alloc (.cells #[.slice A ds.length c, .int .i64 last, .int .i64 ser] 26)).alloc (.cells #[.int .i64 v.ser, .int .i64 v.str, .int .i64 v.wk, .int .i64 v.pr, .bool v.sd, .slice v.fa v.fn v.fc] 29)).alloc (.cells #[.slice none 0 0, .int .i64 0, .int .i64 0] 26) = W0 := ⟨_, rfl⟩
  have HB0 := Aside0.mk (show Below W.heap.size W W0 by rw [← hW0]; exact (((Below.refl W.heap.size W).alloc (Nat.le_refl _) _).alloc (by simp) _).alloc (by simp; omega) _)
  have HZ := Aside0.mk (show W0.heap.size = W.heap.size + 1 + 1 + 1 by rw [← hW0]; simp)
  have B3 := Aside0.mk (show W0.heap[W.heap.size]? = some (.cells #[.slice A ds.length c, .int .i64 last, .int .i64 ser] 26 (0, 0)) by rw [← hW0]; exact blk_alloc (blk_alloc (blk_new W _) _) _)
  have B6 := Aside0.mk (show W0.heap[W.heap.size + 1 + 1]? = some (.cells #[.slice none 0 0, .int .i64 0, .int .i64 0] 26 (0, 0)) by rw [← hW0]; have h := blk_new ((W.alloc (.cells #[.slice A ds.length c, .int .i64 last, .int .i64 ser] 26)).alloc (.cells #[.int .i64 v.ser, .int .i64 v.str, .int .i64 v.wk, .int .i64 v.pr, .bool v.sd, .slice v.fa v.fn v.fc] 29)) (.cells #[.slice none 0 0, .int .i64 0, .int .i64 0] 26); rw [World.size_alloc, World.size_alloc] at h; exact h)
  have HG := Aside0.mk (oSet (W := W0) (P := fun k => P k ∧ k < W.heap.size) (last := last) (h := h) hbig (Kd.V_below (Kd.V_bound hV) HB0.out) (hv.bound.below HB0.out (fun _ h => h)))
  have HW := Aside0.mk hW0
  obtain ⟨r1, hr1⟩ : ∃ r, r = (stt ds h d).1 := ⟨_, rfl⟩
  obtain ⟨r2, hr2⟩ : ∃ r, r = (stt ds h d).2 := ⟨_, rfl⟩
  rw [← hr1, ← hr2] at HG ⊢
  clear hV hW0 hv hr1 hr2 hbig
  go_enter Try.func17, Try.ntmps17
  go_wp2_with (first | (go_at_call 55; rw [HW.out]; refine HG.out.mono ?_; rintro e W1 ⟨v0, rfl, hV, hb⟩; obtain ⟨A1, c1, rfl, hl1, hF1⟩ := hV; have HV := Aside0.mk (Kd.V_bound (show Kd.V k82 82 W1 W0.heap.size (fun k => (P k ∧ k < W.heap.size) ∨ W0.heap.size ≤ k) (.slice A1 r1.length c1) r1 from ⟨A1, c1, rfl, hl1, hF1⟩)); have R3 := Aside0.mk (blk_below B3.out hb); have R6 := Aside0.mk (blk_below B6.out hb); have HB1 := Aside0.mk hb; clear hb hl1 hF1) | ((with_reducible refine gate_dst (N := 8) rfl ?_); refine box_event ?hg (N := 8) ?hd (cs := #[.slice none 0 0, .int .i64 0]) (t := 24) ?hr ?_; (case hd => rfl); (case hg => rfl); (case hr => first | (go_simp; done) | (go_simp; rfl)); intro g8 hg W2 hbox hb; have s0 := (blk_cell hbox 0).trans rfl; have s1 := (blk_cell hbox 1).trans rfl; have f0 := blk_frozen hbox 0; have f1 := blk_frozen hbox 1; have q3 := blk_below R3.out hb; have t0 := (blk_cell q3 0).trans rfl; have t1 := (blk_cell q3 1).trans rfl; have t2 := (blk_cell q3 2).trans rfl; have u0 := blk_frozen q3 0; have u1 := blk_frozen q3 1; have q6 := blk_below R6.out hb; have k0 := (blk_cell q6 0).trans rfl; have k1 := (blk_cell q6 1).trans rfl; have k2 := (blk_cell q6 2).trans rfl; have l0 := blk_frozen q6 0; have l1 := blk_frozen q6 1; have l2 := blk_frozen q6 2; have Q3 := Aside0.mk q3; have Q6 := Aside0.mk q6; have HX := Aside0.mk hbox; have HG8 := Aside0.mk hg; have HBX := Aside0.mk hb; have HBS := Aside0.mk HB1.out.size; have hne1 : W.heap.size ≠ g8 := (by have := HB1.out.size; have := HZ.out; omega); have hne2 : W.heap.size + 1 + 1 ≠ g8 := (by have := HB1.out.size; have := HZ.out; omega); have hne3 : g8 ≠ W.heap.size := Ne.symm hne1; have hne4 : g8 ≠ W.heap.size + 1 + 1 := Ne.symm hne2; clear hbox hg hb q3 q6))
  have z := HZ.out
  have hbs := HBS.out
  have hg8 := HG8.out
  refine bodyPost_ret (results_ct rfl _ _ (W.heap.size + 1 + 1) 26 #[.slice A1 r1.length c1, .int .i64 last, .int .i64 ser] (0, 0) _ rfl (blk_put (blk_put (blk_put (blk_fr2 (blk_fr2 (blk_fr2 (blk_fr2 Q6.out g8 0 _ hne2) g8 1 _ hne2) W.heap.size 0 _ (by omega)) W.heap.size 1 _ (by omega)) 0 _ rfl) 1 _ rfl) 2 _ rfl) Try.underlying26 rfl (by kernel_rfl)) rfl ?_
  have hv1 := Kd.V_below HV.out HBX.out
  have a8 : ∀ k, ((P k ∧ k < W.heap.size) ∨ W0.heap.size ≤ k) ∧ k < W1.heap.size → k ≠ g8 := fun k hk => by omega
  have a0 : ∀ k, ((P k ∧ k < W.heap.size) ∨ W0.heap.size ≤ k) ∧ k < W1.heap.size → k ≠ W.heap.size := fun k hk => by omega
  have a2 : ∀ k, ((P k ∧ k < W.heap.size) ∨ W0.heap.size ≤ k) ∧ k < W1.heap.size → k ≠ W.heap.size + 1 + 1 := fun k hk => by omega
  have hb2 : Below W.heap.size W W2 := (HB0.out.trans (HB1.out.mono HB0.out.size)).trans (HBX.out.mono (by omega))
  exact ⟨_, rfl, Kd.V_mono (V_box (V_box (V_box (V_box (V_box (V_box (V_box hv1 g8 0 a8 _) g8 1 a8 _) W.heap.size 0 a0 _) W.heap.size 1 a0 _) (W.heap.size + 1 + 1) 0 a2 _) (W.heap.size + 1 + 1) 1 a2 _) (W.heap.size + 1 + 1) 2 a2 _) (fun k hk => by rcases hk.1 with h | h; exact .inl h.1; exact .inr (by omega)),
    ((((((hb2.setCell (p := ⟨g8, 0, none⟩) (by dsimp only; omega) _).setCell (p := ⟨g8, 1, none⟩) (by dsimp only; omega) _).setCell (p := ⟨W.heap.size, 0, none⟩) (Nat.le_refl _) _).setCell (p := ⟨W.heap.size, 1, none⟩) (Nat.le_refl _) _).setCell (p := ⟨W.heap.size + 1 + 1, 0, none⟩) (by dsimp only; omega) _).setCell (p := ⟨W.heap.size + 1 + 1, 1, none⟩) (by dsimp only; omega) _).setCell (p := ⟨W.heap.size + 1 + 1, 2, none⟩) (by dsimp only; omega) _⟩
set_option maxRecDepth 100000 in
set_option maxHeartbeats 8000000 in
theorem sGet {W : World} {b : Nat} {P : Nat → Prop} {A : Option Addr} {c : Nat} {ds : List S82} {last ser h : Int} (hbig : ds.length ≤ 1000000) (hV : Kd.V k82 82 W b P (.slice A ds.length c) ds) :
    Calls Try.prog 23 #[.agg #[.slice A ds.length c, .int .i64 last, .int .i64 ser], .int .i64 h] W fun e W' => ∃ v : RO, e = .returned (.tuple #[.agg #[.int .i64 v.ser, .int .i64 v.str, .int .i64 v.wk, .int .i64 v.pr, .bool v.sd, .slice v.fa v.fn v.fc], .int .i64 (getd ds h).2]) ∧ FO W P v (getd ds h).1 ∧ Below W.heap.size W W' := by
  obtain ⟨W0, hW0⟩ : ∃ W0, (W.alloc (.cells #[.slice A ds.length c, .int .i64 last, .int .i64 ser] 26)).alloc (.cells #[.int .i64 0, .int .i64 0, .int .i64 0, .int .i64 0, .bool false, .slice none 0 0] 29) = W0 := ⟨_, rfl⟩
  have HB0 := Aside0.mk (show Below W.heap.size W W0 by rw [← hW0]; exact (((Below.refl W.heap.size W).alloc (by first | exact Nat.le_refl _ | (simp; done) | (simp; omega)) _).alloc (by first | exact Nat.le_refl _ | (simp; done) | (simp; omega)) _))
  have HZ := Aside0.mk (show W0.heap.size = W.heap.size + 1 + 1 by rw [← hW0]; simp)
  have B0 := Aside0.mk (show W0.heap[W.heap.size]? = some (.cells #[.slice A ds.length c, .int .i64 last, .int .i64 ser] 26 (0, 0)) by rw [← hW0]; exact blk_alloc (blk_new W _) _)
  have B1 := Aside0.mk (show W0.heap[W.heap.size + 1]? = some (.cells #[.int .i64 0, .int .i64 0, .int .i64 0, .int .i64 0, .bool false, .slice none 0 0] 29 (0, 0)) by rw [← hW0]; have h := blk_new (W.alloc (.cells #[.slice A ds.length c, .int .i64 last, .int .i64 ser] 26)) (.cells #[.int .i64 0, .int .i64 0, .int .i64 0, .int .i64 0, .bool false, .slice none 0 0] 29); rw [World.size_alloc] at h; exact h)
  have HG := Aside0.mk (oGet (W := W0) (P := fun k => P k ∧ k < W.heap.size) (last := last) (h := h) hbig (Kd.V_below (Kd.V_bound hV) HB0.out))
  have HW := Aside0.mk hW0
  obtain ⟨x, hx⟩ : ∃ x, x = getd ds h := ⟨_, rfl⟩
  rw [← hx] at HG ⊢
  obtain ⟨d, r2⟩ := x
  clear hV hW0 hx hbig
  go_enter Try.func23, Try.ntmps23
  go_wp2_with (go_at_call 61; rw [HW.out]; refine HG.out.mono ?_; rintro e W1 ⟨v, rfl, hrel, hb⟩; have R4 := Aside0.mk (blk_below B1.out hb); have HREL := Aside0.mk hrel; have HB1 := Aside0.mk (HB0.out.trans (hb.mono HB0.out.size)); have d0 := (blk_cell R4.out 0).trans rfl; have df0 := blk_frozen R4.out 0; have d1 := (blk_cell R4.out 1).trans rfl; have df1 := blk_frozen R4.out 1; have d2 := (blk_cell R4.out 2).trans rfl; have df2 := blk_frozen R4.out 2; have d3 := (blk_cell R4.out 3).trans rfl; have df3 := blk_frozen R4.out 3; have d4 := (blk_cell R4.out 4).trans rfl; have df4 := blk_frozen R4.out 4; have d5 := (blk_cell R4.out 5).trans rfl; have df5 := blk_frozen R4.out 5; obtain ⟨v, rfl⟩ : ∃ u, u = v := ⟨_, rfl⟩; clear hb hrel)
  refine bodyPost_ret (results_ct rfl _ _ (W.heap.size + 1) 29 #[.int .i64 v.ser, .int .i64 v.str, .int .i64 v.wk, .int .i64 v.pr, .bool v.sd, .slice v.fa v.fn v.fc] (0, 0) _ rfl (put6 R4.out v) Try.underlying29 rfl (by kernel_rfl)) rfl ?_
  exact ⟨v, rfl, HREL.out.back HB0.out, below6 HB1.out (by omega) v⟩
def atv (l : List Int) (k : Int) : Int × Int := if 0 ≤ k ∧ k < (l.length : Int) then (l.getD k.toNat 0, 0) else (0, 5)
theorem at_f (l : List Int) (k : Int) : vec_At.f l k = some (atv l k) := by
  have bnd : ∀ {α β : Type} (a : α) (f : α → Option β), (some a).bind f = f a := fun a f => rfl
  unfold vec_At.f vec_has.f atv
  by_cases h0 : k ≥ 0
  · rw [if_pos h0, bnd]
    by_cases h1 : k < (l.length : Int)
    · rw [decide_eq_true h1, if_pos rfl, if_pos (by omega), if_pos h1, if_pos ⟨by omega, h1⟩]; rfl
    · rw [decide_eq_false h1, if_neg (by decide), if_neg (fun x => h1 x.2)]
  · rw [if_neg h0, bnd, if_neg (by decide), if_neg (fun x => h0 (by omega))]
def fld (ds : List S82) (h k : Int) : Int × Int := if (getd ds h).2 = 0 then atv (getd ds h).1.f5 k else (0, (getd ds h).2)
set_option maxRecDepth 100000 in
set_option maxHeartbeats 8000000 in
theorem sField {k : Int} {W : World} {b : Nat} {P : Nat → Prop} {A : Option Addr} {c : Nat} {ds : List S82} {last ser h : Int} (hbig : ds.length ≤ 1000000) (hV : Kd.V k82 82 W b P (.slice A ds.length c) ds) :
    Calls Try.prog 54 #[.agg #[.slice A ds.length c, .int .i64 last, .int .i64 ser], .int .i64 h, .int .i64 k] W fun e W' => e = .returned (.tuple #[.int .i64 (fld ds h k).1, .int .i64 (fld ds h k).2]) ∧ Below W.heap.size W W' := by
  obtain ⟨W0, hW0⟩ : ∃ W0, W.alloc (.cells #[.slice A ds.length c, .int .i64 last, .int .i64 ser] 26) = W0 := ⟨_, rfl⟩
  have HB0 := Aside0.mk (show Below W.heap.size W W0 by rw [← hW0]; exact ((Below.refl W.heap.size W).alloc (by first | exact Nat.le_refl _ | (simp; done) | (simp; omega)) _))
  have HZ := Aside0.mk (show W0.heap.size = W.heap.size + 1 by rw [← hW0]; simp)
  have B0 := Aside0.mk (show W0.heap[W.heap.size]? = some (.cells #[.slice A ds.length c, .int .i64 last, .int .i64 ser] 26 (0, 0)) by rw [← hW0]; exact blk_new W _)
  have HG := Aside0.mk (sGet (W := W0) (P := fun k => P k ∧ k < W.heap.size) (last := last) (ser := ser) (h := h) hbig (Kd.V_below (Kd.V_bound hV) HB0.out))
  have HW := Aside0.mk hW0
  unfold fld
  obtain ⟨x, hx⟩ : ∃ x, x = getd ds h := ⟨_, rfl⟩
  rw [← hx] at HG ⊢
  obtain ⟨⟨d0, d1, d2, d3, d4, l⟩, r2⟩ := x
  dsimp only at HG ⊢
  clear hV hW0 hx hbig
  by_cases e : r2 = 0
  · rw [if_pos e]
    subst e
    obtain ⟨y1, hy1⟩ : ∃ y, y = (atv l k).1 := ⟨_, rfl⟩
    obtain ⟨y2, hy2⟩ : ∃ y, y = (atv l k).2 := ⟨_, rfl⟩
    have HA := Aside0.mk (show vec_At.f l k = some (y1, y2) by rw [at_f, hy1, hy2])
    rw [← hy1, ← hy2]
    clear hy1 hy2
    go_enter Try.func54, Try.ntmps54
    go_wp2_with (first | (go_at_call 23; rw [HW.out]; refine HG.out.mono ?_; rintro e W1 ⟨v, rfl, hrel, hb⟩; obtain ⟨v1, v2, v3, v4, v5, fa, fn, fc⟩ := v; obtain ⟨_, _, _, _, _, hn, hfc, hfC⟩ := (hrel.below hb (fun _ h => h)).now; dsimp only at hn hfc hfC ⊢; subst hn; have HFC := Aside0.mk hfC; have HFL := Aside0.mk hfc; have HB1 := Aside0.mk (HB0.out.trans (hb.mono HB0.out.size)); clear hb hrel hfc hfC) | ((with_reducible refine gate_dst (N := 8) rfl ?_); refine box_event ?hg (N := 8) ?hd (cs := #[.int .i64 0, .int .i64 0, .int .i64 0, .int .i64 0, .bool false, .slice none 0 0]) (t := 29) ?hr ?_; (case hd => rfl); (case hg => rfl); (case hr => first | (go_simp; done) | (go_simp; rfl)); intro g8 hg W2 hbox hb; have s0 := (blk_cell hbox 0).trans rfl; have sf0 := blk_frozen hbox 0; have s1 := (blk_cell hbox 1).trans rfl; have sf1 := blk_frozen hbox 1; have s2 := (blk_cell hbox 2).trans rfl; have sf2 := blk_frozen hbox 2; have s3 := (blk_cell hbox 3).trans rfl; have sf3 := blk_frozen hbox 3; have s4 := (blk_cell hbox 4).trans rfl; have sf4 := blk_frozen hbox 4; have s5 := (blk_cell hbox 5).trans rfl; have sf5 := blk_frozen hbox 5; have HBB := Aside0.mk hb; have HG8 := Aside0.mk hg; have HX := Aside0.mk hbox; clear hbox hb hg) | (go_at_call 89; refine (vec_At.calls _ _ l k y1 y2 _ (Kd.C_below HFC.out (below6 HBB.out (Nat.le_of_eq HG8.out.symm) ⟨v1, v2, v3, v4, v5, fa, l.length, fc⟩)) HFL.out HA.out).mono ?_; rintro e W3 ⟨rfl, hd⟩; have HD := Aside0.mk hd.below; clear hd))
    go_ret2
    exact ⟨rfl, (HB1.out.trans ((below6 HBB.out (Nat.le_of_eq HG8.out.symm) ⟨v1, v2, v3, v4, v5, fa, l.length, fc⟩).mono HB1.out.size)).trans (HD.out.mono ((HB1.out.trans ((below6 HBB.out (Nat.le_of_eq HG8.out.symm) ⟨v1, v2, v3, v4, v5, fa, l.length, fc⟩).mono HB1.out.size)).size))⟩
  · rw [if_neg e]
    have e1 : decide (r2 = 0) = false := decide_eq_false e
    have e2 : (r2 == 0) = false := by simpa using e
    go_enter Try.func54, Try.ntmps54
    go_wp2_with (first | (go_at_call 23; rw [HW.out]; refine HG.out.mono ?_; rintro e W1 ⟨v, rfl, hrel, hb⟩; obtain ⟨v1, v2, v3, v4, v5, fa, fn, fc⟩ := v; dsimp only; have HB1 := Aside0.mk (HB0.out.trans (hb.mono HB0.out.size)); clear hb hrel) | ((with_reducible refine gate_dst (N := 8) rfl ?_); refine box_event ?hg (N := 8) ?hd (cs := #[.int .i64 0, .int .i64 0, .int .i64 0, .int .i64 0, .bool false, .slice none 0 0]) (t := 29) ?hr ?_; (case hd => rfl); (case hg => rfl); (case hr => first | (go_simp; done) | (go_simp; rfl)); intro g8 hg W2 hbox hb; have s0 := (blk_cell hbox 0).trans rfl; have sf0 := blk_frozen hbox 0; have s1 := (blk_cell hbox 1).trans rfl; have sf1 := blk_frozen hbox 1; have s2 := (blk_cell hbox 2).trans rfl; have sf2 := blk_frozen hbox 2; have s3 := (blk_cell hbox 3).trans rfl; have sf3 := blk_frozen hbox 3; have s4 := (blk_cell hbox 4).trans rfl; have sf4 := blk_frozen hbox 4; have s5 := (blk_cell hbox 5).trans rfl; have sf5 := blk_frozen hbox 5; have HBB := Aside0.mk hb; have HG8 := Aside0.mk hg; have HX := Aside0.mk hbox; clear hbox hb hg))
    go_ret2
    exact ⟨rfl, HB1.out.trans ((below6 HBB.out (Nat.le_of_eq HG8.out.symm) ⟨v1, v2, v3, v4, v5, fa, fn, fc⟩).mono HB1.out.size)⟩
end Go.Proofs.Ytkmjboeabmmecaa.MAll
