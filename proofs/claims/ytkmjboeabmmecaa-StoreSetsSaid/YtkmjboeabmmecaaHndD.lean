/- The store: what it puts and makes. Conditions: those of each lemma. -/
import Derived.Test.YtkmjboeabmmecaaHndC
namespace Go.Proofs.Ytkmjboeabmmecaa.MAll
open Go.RowKit Go.Proofs.YtkmjboeabmmecaaW.PrintWords Go.Proofs.YtkmjboeabmmecaaW.PrintLast Go.Proofs.YtkmjboeabmmecaaW.PrintMore
attribute [local go_sem] max2_int min2_int max_two min_two max_three min_three max_four min_four
set_option linter.unusedVariables false
set_option linter.unusedSimpArgs false
attribute [local go_sem] Oper.semAt_some
open Go.Shelf Go.Proofs.Ytkmjboeabmmecaa
theorem size6 {W : World} {g : Nat} (v : RO) : ((((((W.setCell ⟨g, 0, none⟩ (.int .i64 v.ser)).setCell ⟨g, 1, none⟩ (.int .i64 v.str)).setCell ⟨g, 2, none⟩ (.int .i64 v.wk)).setCell ⟨g, 3, none⟩ (.int .i64 v.pr)).setCell ⟨g, 4, none⟩ (.bool v.sd)).setCell ⟨g, 5, none⟩ (.slice v.fa v.fn v.fc)).heap.size = W.heap.size := by simp [World.setCell]
theorem far6 {W : World} {g b : Nat} {o : Obj} (h : W.heap[g]? = some o) (hne : g ≠ b) (v : RO) : ((((((W.setCell ⟨b, 0, none⟩ (.int .i64 v.ser)).setCell ⟨b, 1, none⟩ (.int .i64 v.str)).setCell ⟨b, 2, none⟩ (.int .i64 v.wk)).setCell ⟨b, 3, none⟩ (.int .i64 v.pr)).setCell ⟨b, 4, none⟩ (.bool v.sd)).setCell ⟨b, 5, none⟩ (.slice v.fa v.fn v.fc)).heap[g]? = some o :=
  blk_fr2 (blk_fr2 (blk_fr2 (blk_fr2 (blk_fr2 (blk_fr2 h b 0 _ hne) b 1 _ hne) b 2 _ hne) b 3 _ hne) b 4 _ hne) b 5 _ hne
theorem FO.fields {W : World} {P : Nat → Prop} {v : RO} {d : S29} (h : FO W P v d) : v.fn = d.f5.length ∧ Kd.V (Kd.int .i64) 3 W W.heap.size (fun k => P k) (.slice v.fa d.f5.length v.fc) d.f5 :=
  ⟨h.now.2.2.2.2.2.1, ⟨v.fa, v.fc, rfl, h.now.2.2.2.2.2.2.1, fun W2 h2 => (h W2 h2).2.2.2.2.2.2.2⟩⟩
theorem FO.ofV {W : World} {t b : Nat} {P : Nat → Prop} {a : Option Addr} {c : Nat} {l : List Int} (s1 s2 s3 s4 : Int) (sd : Bool) (h : Kd.V (Kd.int .i64) t W b P (.slice a l.length c) l) : FO W P ⟨s1, s2, s3, s4, sd, a, l.length, c⟩ ⟨s1, s2, s3, s4, sd, l⟩ := by
  obtain ⟨a', c', e, hl, hf⟩ := h
  injection e with e1 e2 e3
  subst e1 e3
  exact fun W2 h2 => ⟨rfl, rfl, rfl, rfl, rfl, rfl, hl, hf W2 h2⟩
def putd (ds : List S82) (h k x : Int) : List S82 × Int := if (getd ds h).2 = 0 then (if (wth (getd ds h).1.f5 k x).2 = 0 then stt ds h ⟨(getd ds h).1.f0, (getd ds h).1.f1, (getd ds h).1.f2, (getd ds h).1.f3, (getd ds h).1.f4, (wth (getd ds h).1.f5 k x).1⟩ else (ds, (wth (getd ds h).1.f5 k x).2)) else (ds, (getd ds h).2)
theorem with_f (l : List Int) (k x : Int) (hl : l.length ≤ 1000000) : vec_With.f l k x = some (wth l k x) := by
  unfold vec_With.f wth
  by_cases c0 : 0 ≤ k ∧ k < (l.length : Int)
  · rw [if_pos c0, if_pos c0, if_pos hl]
  · rw [if_neg c0, if_neg c0]
set_option maxRecDepth 100000 in
set_option maxHeartbeats 8000000 in
theorem sPut {k x : Int} {W : World} {b : Nat} {P : Nat → Prop} {A : Option Addr} {c : Nat} {ds : List S82} {last ser h : Int} (hbig : ds.length ≤ 1000000) (hV : Kd.V k82 82 W b P (.slice A ds.length c) ds) (hfl : (getd ds h).1.f5.length ≤ 1000000) :
    Calls Try.prog 53 #[.agg #[.slice A ds.length c, .int .i64 last, .int .i64 ser], .int .i64 h, .int .i64 k, .int .i64 x] W fun e W' => ∃ v0, e = .returned (.tuple #[.agg #[v0, .int .i64 last, .int .i64 ser], .int .i64 (putd ds h k x).2]) ∧ Kd.V k82 82 W' W.heap.size (fun k => P k ∨ W.heap.size ≤ k) v0 (putd ds h k x).1 ∧ Below W.heap.size W W' := by
  obtain ⟨W0, hW0⟩ : ∃ W0, (W.alloc (.cells #[.slice A ds.length c, .int .i64 last, .int .i64 ser] 26)).alloc (.cells #[.slice none 0 0, .int .i64 0, .int .i64 0] 26) = W0 := ⟨_, rfl⟩
  have HB0 := Aside0.mk (show Below W.heap.size W W0 by rw [← hW0]; exact (((Below.refl W.heap.size W).alloc (by first | exact Nat.le_refl _ | (simp; done) | (simp; omega)) _).alloc (by first | exact Nat.le_refl _ | (simp; done) | (simp; omega)) _))
  have HZ := Aside0.mk (show W0.heap.size = W.heap.size + 1 + 1 by rw [← hW0]; simp)
  have B0 := Aside0.mk (show W0.heap[W.heap.size]? = some (.cells #[.slice A ds.length c, .int .i64 last, .int .i64 ser] 26 (0, 0)) by rw [← hW0]; exact blk_alloc (blk_new W _) _)
  have B1 := Aside0.mk (show W0.heap[W.heap.size + 1]? = some (.cells #[.slice none 0 0, .int .i64 0, .int .i64 0] 26 (0, 0)) by rw [← hW0]; have h := blk_new (W.alloc (.cells #[.slice A ds.length c, .int .i64 last, .int .i64 ser] 26)) (.cells #[.slice none 0 0, .int .i64 0, .int .i64 0] 26); rw [World.size_alloc] at h; exact h)
  have HG := Aside0.mk (sGet (W := W0) (P := fun k => P k ∧ k < W.heap.size) (last := last) (ser := ser) (h := h) hbig (Kd.V_below (Kd.V_bound hV) HB0.out))
  have HW := Aside0.mk hW0
  have HVB := Aside0.mk (Kd.V_bound hV)
  have HBIG := Aside0.mk hbig
  unfold putd
  obtain ⟨y, hy⟩ : ∃ y, y = getd ds h := ⟨_, rfl⟩
  rw [← hy] at HG hfl ⊢
  obtain ⟨⟨d0, d1, d2, d3, d4, l⟩, r2⟩ := y
  dsimp only at HG hfl ⊢
  have HWF := Aside0.mk (with_f l k x hfl)
  obtain ⟨w1, hw1⟩ : ∃ y, y = (wth l k x).1 := ⟨_, rfl⟩
  obtain ⟨w2, hw2⟩ : ∃ y, y = (wth l k x).2 := ⟨_, rfl⟩
  replace HWF := Aside0.mk (show vec_With.f l k x = some (w1, w2) by rw [HWF.out, hw1, hw2])
  rw [← hw1, ← hw2]
  clear hV hW0 hy hbig hfl hw1 hw2
  rcases (show (¬ r2 = 0) ∨ r2 = 0 by omega) with e | e
  · rw [if_neg e]
    have e1 : decide (r2 = 0) = false := decide_eq_false e
    have e2 : (r2 == 0) = false := by simpa using e
    go_enter Try.func53, Try.ntmps53
    go_wp2_with (first | (go_at_call 23; rw [HW.out]; refine HG.out.mono ?_; rintro e W1 ⟨v, rfl, hrel, hb⟩; obtain ⟨v1, v2, v3, v4, v5, fa, fn, fc⟩ := v; obtain rfl : fn = l.length := hrel.fields.1; have HREL := Aside0.mk (hrel.below hb (fun _ h => h)); obtain ⟨q1, q2, q3, q4, q5, _⟩ := hrel.now; dsimp only at q1 q2 q3 q4 q5 ⊢; subst q1 q2 q3 q4 q5; have R0 := Aside0.mk (blk_below B0.out hb); have R1 := Aside0.mk (blk_below B1.out hb); have HS1 := Aside0.mk hb.size; have HB1 := Aside0.mk (HB0.out.trans (hb.mono HB0.out.size)); clear hb hrel) | ((with_reducible refine gate_dst (N := 10) rfl ?_); refine box_event ?hg (N := 10) ?hd (cs := #[.int .i64 0, .int .i64 0, .int .i64 0, .int .i64 0, .bool false, .slice none 0 0]) (t := 29) ?hr ?_; (case hd => rfl); (case hg => rfl); (case hr => first | (go_simp; done) | (go_simp; rfl)); intro g10 hg W2 hbox hb; have s0 := (blk_cell hbox 0).trans rfl; have sf0 := blk_frozen hbox 0; have s1 := (blk_cell hbox 1).trans rfl; have sf1 := blk_frozen hbox 1; have s2 := (blk_cell hbox 2).trans rfl; have sf2 := blk_frozen hbox 2; have s3 := (blk_cell hbox 3).trans rfl; have sf3 := blk_frozen hbox 3; have s4 := (blk_cell hbox 4).trans rfl; have sf4 := blk_frozen hbox 4; have s5 := (blk_cell hbox 5).trans rfl; have sf5 := blk_frozen hbox 5; have HBB := Aside0.mk hb; have HG := Aside0.mk hg; have HX := Aside0.mk hbox; have Q0 := Aside0.mk (blk_below R0.out hb); have Q1 := Aside0.mk (blk_below R1.out hb); have n1 : W.heap.size ≠ g10 := (by have := HS1.out; have := HZ.out; omega); have n2 : W.heap.size + 1 ≠ g10 := (by have := HS1.out; have := HZ.out; omega); have n3 : g10 ≠ W.heap.size := Ne.symm n1; have n4 : g10 ≠ W.heap.size + 1 := Ne.symm n2; have t0 := (blk_cell Q0.out 0).trans rfl; have tf0 := blk_frozen Q0.out 0; have t1 := (blk_cell Q0.out 1).trans rfl; have tf1 := blk_frozen Q0.out 1; have t2 := (blk_cell Q0.out 2).trans rfl; have tf2 := blk_frozen Q0.out 2; have k0 := (blk_cell Q1.out 0).trans rfl; have kf0 := blk_frozen Q1.out 0; have k1 := (blk_cell Q1.out 1).trans rfl; have kf1 := blk_frozen Q1.out 1; have k2 := (blk_cell Q1.out 2).trans rfl; have kf2 := blk_frozen Q1.out 2; clear hbox hb hg))
    have z := HZ.out
    have hs1 := HS1.out
    have hg := HG.out
    refine bodyPost_ret (results_ct rfl _ _ (W.heap.size + 1) 26 #[.slice A ds.length c, .int .i64 last, .int .i64 ser] (0, 0) _ rfl (blk_put (blk_put (blk_put (far6 Q1.out n2 ⟨v1, v2, v3, v4, v5, fa, l.length, fc⟩) 0 _ rfl) 1 _ rfl) 2 _ rfl) Try.underlying26 rfl (by kernel_rfl)) rfl ?_
    have hX : Below W.heap.size W _ := HB1.out.trans ((below6 HBB.out (Nat.le_of_eq hg.symm) ⟨v1, v2, v3, v4, v5, fa, l.length, fc⟩).mono HB1.out.size)
    have a1 : ∀ k, P k ∧ k < W.heap.size → k ≠ W.heap.size + 1 := fun k hk => by omega
    exact ⟨_, rfl, Kd.V_mono (V_box (V_box (V_box (Kd.V_below HVB.out hX) (W.heap.size + 1) 0 a1 _) (W.heap.size + 1) 1 a1 _) (W.heap.size + 1) 2 a1 _) (fun k hk => .inl hk.1), ((hX.setCell (p := ⟨W.heap.size + 1, 0, none⟩) (by dsimp only; omega) _).setCell (p := ⟨W.heap.size + 1, 1, none⟩) (by dsimp only; omega) _).setCell (p := ⟨W.heap.size + 1, 2, none⟩) (by dsimp only; omega) _⟩
  · rw [if_pos e]
    subst e
    rcases (show (¬ w2 = 0) ∨ w2 = 0 by omega) with e | e
    · rw [if_neg e]
      have e1 : decide (w2 = 0) = false := decide_eq_false e
      have e2 : (w2 == 0) = false := by simpa using e
      go_enter Try.func53, Try.ntmps53
      go_wp2_with (first | (go_at_call 23; rw [HW.out]; refine HG.out.mono ?_; rintro e W1 ⟨v, rfl, hrel, hb⟩; obtain ⟨v1, v2, v3, v4, v5, fa, fn, fc⟩ := v; obtain rfl : fn = l.length := hrel.fields.1; have HREL := Aside0.mk (hrel.below hb (fun _ h => h)); obtain ⟨q1, q2, q3, q4, q5, _⟩ := hrel.now; dsimp only at q1 q2 q3 q4 q5 ⊢; subst q1 q2 q3 q4 q5; have R0 := Aside0.mk (blk_below B0.out hb); have R1 := Aside0.mk (blk_below B1.out hb); have HS1 := Aside0.mk hb.size; have HB1 := Aside0.mk (HB0.out.trans (hb.mono HB0.out.size)); clear hb hrel) | ((with_reducible refine gate_dst (N := 10) rfl ?_); refine box_event ?hg (N := 10) ?hd (cs := #[.int .i64 0, .int .i64 0, .int .i64 0, .int .i64 0, .bool false, .slice none 0 0]) (t := 29) ?hr ?_; (case hd => rfl); (case hg => rfl); (case hr => first | (go_simp; done) | (go_simp; rfl)); intro g10 hg W2 hbox hb; have s0 := (blk_cell hbox 0).trans rfl; have sf0 := blk_frozen hbox 0; have s1 := (blk_cell hbox 1).trans rfl; have sf1 := blk_frozen hbox 1; have s2 := (blk_cell hbox 2).trans rfl; have sf2 := blk_frozen hbox 2; have s3 := (blk_cell hbox 3).trans rfl; have sf3 := blk_frozen hbox 3; have s4 := (blk_cell hbox 4).trans rfl; have sf4 := blk_frozen hbox 4; have s5 := (blk_cell hbox 5).trans rfl; have sf5 := blk_frozen hbox 5; have HBB := Aside0.mk hb; have HG := Aside0.mk hg; have HX := Aside0.mk hbox; have Q0 := Aside0.mk (blk_below R0.out hb); have Q1 := Aside0.mk (blk_below R1.out hb); have n1 : W.heap.size ≠ g10 := (by have := HS1.out; have := HZ.out; omega); have n2 : W.heap.size + 1 ≠ g10 := (by have := HS1.out; have := HZ.out; omega); have n3 : g10 ≠ W.heap.size := Ne.symm n1; have n4 : g10 ≠ W.heap.size + 1 := Ne.symm n2; clear hbox hb hg) | (go_at_call 88; refine (vec_With.calls (fun k_ => P k_ ∧ k_ < W.heap.size) fa fc l k x w1 w2 _ ((HREL.out.below (below6 HBB.out (Nat.le_of_eq HG.out.symm) ⟨v1, v2, v3, v4, v5, fa, l.length, fc⟩) (fun _ h => h)).fields).2 HWF.out).mono ?_; rintro e W3 ⟨v9, rfl, hV3, hb3⟩; obtain ⟨A9, c9, rfl, hl9, hF9⟩ := hV3; have HV9 := Aside0.mk (Kd.V_bound (show Kd.V (Kd.int .i64) 3 W3 0 _ (.slice A9 w1.length c9) w1 from ⟨A9, c9, rfl, hl9, hF9⟩)); have HB3 := Aside0.mk hb3; have P0 := Aside0.mk (blk_below (far6 Q0.out n1 ⟨v1, v2, v3, v4, v5, fa, l.length, fc⟩) hb3); have P1 := Aside0.mk (blk_below (far6 Q1.out n2 ⟨v1, v2, v3, v4, v5, fa, l.length, fc⟩) hb3); have P10 := Aside0.mk (blk_below (put6 HX.out ⟨v1, v2, v3, v4, v5, fa, l.length, fc⟩) hb3); have p0 := (blk_cell P0.out 0).trans rfl; have pf0 := blk_frozen P0.out 0; have p1 := (blk_cell P0.out 1).trans rfl; have pf1 := blk_frozen P0.out 1; have p2 := (blk_cell P0.out 2).trans rfl; have pf2 := blk_frozen P0.out 2; have k0 := (blk_cell P1.out 0).trans rfl; have kf0 := blk_frozen P1.out 0; have k1 := (blk_cell P1.out 1).trans rfl; have kf1 := blk_frozen P1.out 1; have k2 := (blk_cell P1.out 2).trans rfl; have kf2 := blk_frozen P1.out 2; have u0 := (blk_cell P10.out 0).trans rfl; have uf0 := blk_frozen P10.out 0; have u1 := (blk_cell P10.out 1).trans rfl; have uf1 := blk_frozen P10.out 1; have u2 := (blk_cell P10.out 2).trans rfl; have uf2 := blk_frozen P10.out 2; have u3 := (blk_cell P10.out 3).trans rfl; have uf3 := blk_frozen P10.out 3; have u4 := (blk_cell P10.out 4).trans rfl; have uf4 := blk_frozen P10.out 4; have u5 := (blk_cell P10.out 5).trans rfl; have uf5 := blk_frozen P10.out 5; clear s0 s1 s2 s3 s4 s5 sf0 sf1 sf2 sf3 sf4 sf5; clear hb3 hl9 hF9))
      have z := HZ.out
      have hs1 := HS1.out
      have hg := HG.out
      refine bodyPost_ret (results_ct rfl _ _ (W.heap.size + 1) 26 #[.slice A ds.length c, .int .i64 last, .int .i64 ser] (0, 0) _ rfl (blk_put (blk_put (blk_put (blk_fr2 P1.out g10 5 _ n2) 0 _ rfl) 1 _ rfl) 2 _ rfl) Try.underlying26 rfl (by kernel_rfl)) rfl ?_
      have hX : Below W.heap.size W _ := (HB1.out.trans ((below6 HBB.out (Nat.le_of_eq hg.symm) ⟨v1, v2, v3, v4, v5, fa, l.length, fc⟩).mono HB1.out.size))
      have hY : Below W.heap.size W W3 := hX.trans (HB3.out.mono hX.size)
      have hY5 := hY.setCell (p := ⟨g10, 5, none⟩) (by dsimp only; omega) (.slice A9 w1.length c9)
      have a1 : ∀ k, P k ∧ k < W.heap.size → k ≠ W.heap.size + 1 := fun k hk => by omega
      exact ⟨_, rfl, Kd.V_mono (V_box (V_box (V_box (Kd.V_below HVB.out hY5) (W.heap.size + 1) 0 a1 _) (W.heap.size + 1) 1 a1 _) (W.heap.size + 1) 2 a1 _) (fun k hk => .inl hk.1), ((hY5.setCell (p := ⟨W.heap.size + 1, 0, none⟩) (by dsimp only; omega) _).setCell (p := ⟨W.heap.size + 1, 1, none⟩) (by dsimp only; omega) _).setCell (p := ⟨W.heap.size + 1, 2, none⟩) (by dsimp only; omega) _⟩
    · rw [if_pos e]
      subst e
      obtain ⟨r1, hr1⟩ : ∃ y, y = (stt ds h ⟨d0, d1, d2, d3, d4, w1⟩).1 := ⟨_, rfl⟩
      obtain ⟨r2, hr2⟩ : ∃ y, y = (stt ds h ⟨d0, d1, d2, d3, d4, w1⟩).2 := ⟨_, rfl⟩
      rw [← hr1, ← hr2]
      have HR1 := Aside0.mk hr1
      have HR2 := Aside0.mk hr2
      clear hr1 hr2
      go_enter Try.func53, Try.ntmps53
      go_wp2_with (first | (go_at_call 23; rw [HW.out]; refine HG.out.mono ?_; rintro e W1 ⟨v, rfl, hrel, hb⟩; obtain ⟨v1, v2, v3, v4, v5, fa, fn, fc⟩ := v; obtain rfl : fn = l.length := hrel.fields.1; have HREL := Aside0.mk (hrel.below hb (fun _ h => h)); obtain ⟨q1, q2, q3, q4, q5, _⟩ := hrel.now; dsimp only at q1 q2 q3 q4 q5 ⊢; subst q1 q2 q3 q4 q5; have R0 := Aside0.mk (blk_below B0.out hb); have R1 := Aside0.mk (blk_below B1.out hb); have HS1 := Aside0.mk hb.size; have HB1 := Aside0.mk (HB0.out.trans (hb.mono HB0.out.size)); clear hb hrel) | ((with_reducible refine gate_dst (N := 10) rfl ?_); refine box_event ?hg (N := 10) ?hd (cs := #[.int .i64 0, .int .i64 0, .int .i64 0, .int .i64 0, .bool false, .slice none 0 0]) (t := 29) ?hr ?_; (case hd => rfl); (case hg => rfl); (case hr => first | (go_simp; done) | (go_simp; rfl)); intro g10 hg W2 hbox hb; have s0 := (blk_cell hbox 0).trans rfl; have sf0 := blk_frozen hbox 0; have s1 := (blk_cell hbox 1).trans rfl; have sf1 := blk_frozen hbox 1; have s2 := (blk_cell hbox 2).trans rfl; have sf2 := blk_frozen hbox 2; have s3 := (blk_cell hbox 3).trans rfl; have sf3 := blk_frozen hbox 3; have s4 := (blk_cell hbox 4).trans rfl; have sf4 := blk_frozen hbox 4; have s5 := (blk_cell hbox 5).trans rfl; have sf5 := blk_frozen hbox 5; have HBB := Aside0.mk hb; have HG := Aside0.mk hg; have HX := Aside0.mk hbox; have Q0 := Aside0.mk (blk_below R0.out hb); have Q1 := Aside0.mk (blk_below R1.out hb); have n1 : W.heap.size ≠ g10 := (by have := HS1.out; have := HZ.out; omega); have n2 : W.heap.size + 1 ≠ g10 := (by have := HS1.out; have := HZ.out; omega); have n3 : g10 ≠ W.heap.size := Ne.symm n1; have n4 : g10 ≠ W.heap.size + 1 := Ne.symm n2; clear hbox hb hg) | (go_at_call 88; refine (vec_With.calls (fun k_ => P k_ ∧ k_ < W.heap.size) fa fc l k x w1 0 _ ((HREL.out.below (below6 HBB.out (Nat.le_of_eq HG.out.symm) ⟨v1, v2, v3, v4, v5, fa, l.length, fc⟩) (fun _ h => h)).fields).2 HWF.out).mono ?_; rintro e W3 ⟨v9, rfl, hV3, hb3⟩; obtain ⟨A9, c9, rfl, hl9, hF9⟩ := hV3; have HV9 := Aside0.mk (Kd.V_bound (show Kd.V (Kd.int .i64) 3 W3 0 _ (.slice A9 w1.length c9) w1 from ⟨A9, c9, rfl, hl9, hF9⟩)); have HB3 := Aside0.mk hb3; have P0 := Aside0.mk (blk_below (far6 Q0.out n1 ⟨v1, v2, v3, v4, v5, fa, l.length, fc⟩) hb3); have P1 := Aside0.mk (blk_below (far6 Q1.out n2 ⟨v1, v2, v3, v4, v5, fa, l.length, fc⟩) hb3); have P10 := Aside0.mk (blk_below (put6 HX.out ⟨v1, v2, v3, v4, v5, fa, l.length, fc⟩) hb3); have p0 := (blk_cell P0.out 0).trans rfl; have pf0 := blk_frozen P0.out 0; have p1 := (blk_cell P0.out 1).trans rfl; have pf1 := blk_frozen P0.out 1; have p2 := (blk_cell P0.out 2).trans rfl; have pf2 := blk_frozen P0.out 2; have k0 := (blk_cell P1.out 0).trans rfl; have kf0 := blk_frozen P1.out 0; have k1 := (blk_cell P1.out 1).trans rfl; have kf1 := blk_frozen P1.out 1; have k2 := (blk_cell P1.out 2).trans rfl; have kf2 := blk_frozen P1.out 2; have u0 := (blk_cell P10.out 0).trans rfl; have uf0 := blk_frozen P10.out 0; have u1 := (blk_cell P10.out 1).trans rfl; have uf1 := blk_frozen P10.out 1; have u2 := (blk_cell P10.out 2).trans rfl; have uf2 := blk_frozen P10.out 2; have u3 := (blk_cell P10.out 3).trans rfl; have uf3 := blk_frozen P10.out 3; have u4 := (blk_cell P10.out 4).trans rfl; have uf4 := blk_frozen P10.out 4; have u5 := (blk_cell P10.out 5).trans rfl; have uf5 := blk_frozen P10.out 5; have hX : Below W.heap.size W _ := (HB1.out.trans ((below6 HBB.out (Nat.le_of_eq HG.out.symm) ⟨v1, v2, v3, v4, v5, fa, l.length, fc⟩).mono HB1.out.size)); have hY := hX.trans (HB3.out.mono hX.size); have HY5 := Aside0.mk (hY.setCell (p := ⟨g10, 5, none⟩) (by have := HB1.out.size; have := HG.out; dsimp only; omega) (.slice A9 w1.length c9)); have hsx := (below6 HBB.out (Nat.le_of_eq HG.out.symm) ⟨v1, v2, v3, v4, v5, fa, l.length, fc⟩).size; have HSX := Aside0.mk hsx; have HFO := Aside0.mk (FO.ofV v1 v2 v3 v4 v5 (Kd.V_mono (V_box HV9.out g10 5 (fun k hk => by have h1 := HG.out; have h2 := HS1.out; have h3 := HBB.out.size; have h4 := HZ.out; have h5 := blk_lt HX.out; rcases hk.1 with h | h; omega; rw [size6] at h; omega) (.slice A9 w1.length c9)) (ok' := fun k => (P k ∧ k < W.heap.size) ∨ W0.heap.size ≤ k) (fun k hk => by have h2 := HS1.out; have h3 := HBB.out.size; rcases hk.1 with h | h; exact .inl h; rw [size6] at h; exact .inr (by omega)))); clear hX hY hsx; clear s0 s1 s2 s3 s4 s5 sf0 sf1 sf2 sf3 sf4 sf5; clear hb3 hl9 hF9) | (go_at_call 17; have hS := sSet (W := W3.setCell ⟨g10, 5, none⟩ (.slice A9 w1.length c9)) (P := fun k => (P k ∧ k < W.heap.size) ∨ W0.heap.size ≤ k) (last := last) (ser := ser) (h := h) HBIG.out (Kd.V_mono (Kd.V_below HVB.out HY5.out) (fun k hk => .inl hk)) (HFO.out); rw [← HR1.out, ← HR2.out] at hS; refine hS.mono ?_; clear hS; rintro e W5 ⟨v7, rfl, hV5, hb5⟩; obtain ⟨A7, c7, rfl, hl7, hF7⟩ := hV5; have HV7 := Aside0.mk (show Kd.V k82 82 W5 0 _ (.slice A7 r1.length c7) r1 from ⟨A7, c7, rfl, hl7, hF7⟩); have HB5 := Aside0.mk hb5; have K1 := Aside0.mk (blk_below (blk_fr2 P1.out g10 5 (.slice A9 w1.length c9) n2) hb5); have j0 := (blk_cell K1.out 0).trans rfl; have jf0 := blk_frozen K1.out 0; have j1 := (blk_cell K1.out 1).trans rfl; have jf1 := blk_frozen K1.out 1; have j2 := (blk_cell K1.out 2).trans rfl; have jf2 := blk_frozen K1.out 2; clear hb5 hl7 hF7))
      have z := HZ.out
      have hs1 := HS1.out
      have hg := HG.out
      have h3 := HBB.out.size
      have h4 := HB3.out.size
      have h6 := HSX.out
      have h7 := blk_lt P1.out
      have h8 := blk_lt P10.out
      refine bodyPost_ret (results_ct rfl _ _ (W.heap.size + 1) 26 #[.slice A7 r1.length c7, .int .i64 last, .int .i64 ser] (0, 0) _ rfl (blk_put (blk_put (blk_put (K1.out) 0 _ rfl) 1 _ rfl) 2 _ rfl) Try.underlying26 rfl (by kernel_rfl)) rfl ?_
      have hz : (W3.setCell ⟨g10, 5, none⟩ (.slice A9 w1.length c9)).heap.size = W3.heap.size := by simp [World.setCell]
      have hW : Below W.heap.size W W5 := HY5.out.trans (HB5.out.mono HY5.out.size)
      have hv := Kd.V_bound HV7.out
      have a1 : ∀ k, (((P k ∧ k < W.heap.size) ∨ W0.heap.size ≤ k) ∨ (W3.setCell ⟨g10, 5, none⟩ (.slice A9 w1.length c9)).heap.size ≤ k) ∧ k < W5.heap.size → k ≠ W.heap.size + 1 := fun k hk => by rw [hz] at hk; omega
      exact ⟨_, rfl, Kd.V_mono (V_box (V_box (V_box (hv) (W.heap.size + 1) 0 a1 _) (W.heap.size + 1) 1 a1 _) (W.heap.size + 1) 2 a1 _) (fun k hk => by rw [hz] at hk; rcases hk.1 with (h | h) | h; exact .inl h.1; exact .inr (by omega); exact .inr (by omega)), ((hW.setCell (p := ⟨W.heap.size + 1, 0, none⟩) (by dsimp only; omega) _).setCell (p := ⟨W.heap.size + 1, 1, none⟩) (by dsimp only; omega) _).setCell (p := ⟨W.heap.size + 1, 2, none⟩) (by dsimp only; omega) _⟩
def makd (ds : List S82) (ser ar pg : Int) : List S82 × Int × Int × Int :=
  if ar < 0 ∨ ar > 4 then (ds, ser, 0, 1) else if pg < -1 ∨ pg ≥ 6 then (ds, ser, 0, 13) else
    if (tak ds ⟨wrap64 (ser + 1), 0, 0, pg, false, List.replicate ar.toNat 0⟩).2.2 = 0 then ((tak ds ⟨wrap64 (ser + 1), 0, 0, pg, false, List.replicate ar.toNat 0⟩).1, wrap64 (ser + 1), (tak ds ⟨wrap64 (ser + 1), 0, 0, pg, false, List.replicate ar.toNat 0⟩).2.1, 0)
    else (ds, ser, 0, (tak ds ⟨wrap64 (ser + 1), 0, 0, pg, false, List.replicate ar.toNat 0⟩).2.2)
theorem vnew_no (n : Int) (h : n < 0 ∨ n > 4) : vec_New.f n = some ([], 1) := by
  unfold vec_New.f
  by_cases h0 : n < 0
  · rw [if_pos h0]
  · rw [if_neg h0, if_pos (by omega)]
theorem vnew_yes (n : Int) (h : ¬ (n < 0 ∨ n > 4)) : vec_New.f n = some (List.replicate n.toNat 0, 0) := by
  unfold vec_New.f
  rw [if_neg (by omega), if_neg (by omega), if_pos (by omega), if_pos (by omega)]
theorem R_news {W W' : World} {v : Value} {l : List Int} (h : Kd.R (Kd.int .i64) 3 W' W.heap.size (fun _ => True) v l) : ∃ A c, v = .slice A l.length c ∧ Kd.V (Kd.int .i64) 3 W' 0 (fun k => W.heap.size ≤ k ∧ k < W'.heap.size) (.slice A l.length c) l := by
  have h1 := Kd.R_bound h
  obtain ⟨A, c, rfl⟩ := Kd.R_slice h1
  exact ⟨A, c, rfl, Kd.V_mono (Kd.R_V h1) (fun k hk => ⟨hk.2.1, hk.2.2.1⟩)⟩
set_option maxRecDepth 100000 in
set_option maxHeartbeats 8000000 in
theorem sMake {W : World} {b : Nat} {P : Nat → Prop} {A : Option Addr} {c : Nat} {ds : List S82} {last ser ar pg : Int} (hbig : ds.length ≤ 1000000) (hV : Kd.V k82 82 W b P (.slice A ds.length c) ds) :
    Calls Try.prog 30 #[.agg #[.slice A ds.length c, .int .i64 last, .int .i64 ser], .int .i64 ar, .int .i64 pg] W fun e W' => ∃ v0, e = .returned (.tuple #[.agg #[v0, .int .i64 last, .int .i64 (makd ds ser ar pg).2.1], .int .i64 (makd ds ser ar pg).2.2.1, .int .i64 (makd ds ser ar pg).2.2.2]) ∧ Kd.V k82 82 W' W.heap.size (fun k => P k ∨ W.heap.size ≤ k) v0 (makd ds ser ar pg).1 ∧ Below W.heap.size W W' := by
  obtain ⟨W0, hW0⟩ : ∃ W0, (W.alloc (.cells #[.slice A ds.length c, .int .i64 last, .int .i64 ser] 26)).alloc (.cells #[.slice none 0 0, .int .i64 0, .int .i64 0] 26) = W0 := ⟨_, rfl⟩
  have HB0 := Aside0.mk (show Below W.heap.size W W0 by rw [← hW0]; exact (((Below.refl W.heap.size W).alloc (by first | exact Nat.le_refl _ | (simp; done) | (simp; omega)) _).alloc (by first | exact Nat.le_refl _ | (simp; done) | (simp; omega)) _))
  have HZ := Aside0.mk (show W0.heap.size = W.heap.size + 1 + 1 by rw [← hW0]; simp)
  have B0 := Aside0.mk (show W0.heap[W.heap.size]? = some (.cells #[.slice A ds.length c, .int .i64 last, .int .i64 ser] 26 (0, 0)) by rw [← hW0]; exact blk_alloc (blk_new W _) _)
  have B1 := Aside0.mk (show W0.heap[W.heap.size + 1]? = some (.cells #[.slice none 0 0, .int .i64 0, .int .i64 0] 26 (0, 0)) by rw [← hW0]; have h := blk_new (W.alloc (.cells #[.slice A ds.length c, .int .i64 last, .int .i64 ser] 26)) (.cells #[.slice none 0 0, .int .i64 0, .int .i64 0] 26); rw [World.size_alloc] at h; exact h)
  have HW := Aside0.mk hW0
  have HVB := Aside0.mk (Kd.V_bound hV)
  have HBIG := Aside0.mk hbig
  unfold makd
  clear hV hW0 hbig
  rcases Decidable.em (ar < 0 ∨ ar > 4) with e | e
  · rw [if_pos e]
    have HN := Aside0.mk (vnew_no ar e)
    go_enter Try.func30, Try.ntmps30
    go_wp2_with (first | (go_at_call 70; rw [HW.out]; refine (vec_New.calls ar [] 1 _ HN.out).mono ?_; rintro e W1 ⟨v9, rfl, hR, hb⟩; obtain ⟨A9, c9, rfl, hV9⟩ := R_news hR; have HV9 := Aside0.mk hV9; have R0 := Aside0.mk (blk_below B0.out hb); have R1 := Aside0.mk (blk_below B1.out hb); have HS1 := Aside0.mk hb.size; have HB1 := Aside0.mk (HB0.out.trans (hb.mono HB0.out.size)); have t0 := (blk_cell R0.out 0).trans rfl; have tf0 := blk_frozen R0.out 0; have t1 := (blk_cell R0.out 1).trans rfl; have tf1 := blk_frozen R0.out 1; have t2 := (blk_cell R0.out 2).trans rfl; have tf2 := blk_frozen R0.out 2; have k0 := (blk_cell R1.out 0).trans rfl; have kf0 := blk_frozen R1.out 0; have k1 := (blk_cell R1.out 1).trans rfl; have kf1 := blk_frozen R1.out 1; have k2 := (blk_cell R1.out 2).trans rfl; have kf2 := blk_frozen R1.out 2; clear hb hR hV9))
    have z := HZ.out
    have hs1 := HS1.out
    refine bodyPost_ret (results_ctt rfl _ _ (W.heap.size + 1) 26 #[.slice A ds.length c, .int .i64 last, .int .i64 ser] (0, 0) _ rfl (blk_put (blk_put (blk_put (R1.out) 0 _ rfl) 1 _ rfl) 2 _ rfl) Try.underlying26 rfl (by kernel_rfl)) rfl ?_
    have a1 : ∀ k, P k ∧ k < W.heap.size → k ≠ W.heap.size + 1 := fun k hk => by omega
    exact ⟨_, rfl, Kd.V_mono (V_box (V_box (V_box (Kd.V_below HVB.out HB1.out) (W.heap.size + 1) 0 a1 _) (W.heap.size + 1) 1 a1 _) (W.heap.size + 1) 2 a1 _) (fun k hk => .inl hk.1), ((HB1.out.setCell (p := ⟨W.heap.size + 1, 0, none⟩) (by dsimp only; omega) _).setCell (p := ⟨W.heap.size + 1, 1, none⟩) (by dsimp only; omega) _).setCell (p := ⟨W.heap.size + 1, 2, none⟩) (by dsimp only; omega) _⟩
  · rw [if_neg e]
    have HN := Aside0.mk (vnew_yes ar e)
    clear e
    rcases Decidable.em (pg < -1 ∨ pg ≥ 6) with e | e
    · rw [if_pos e]
      rcases Decidable.em (pg < -1) with e1 | e1
      · have p1 : decide (pg < -1) = true := decide_eq_true e1
        clear e
        go_enter Try.func30, Try.ntmps30
        go_wp2_with (first | (go_at_call 70; rw [HW.out]; refine (vec_New.calls ar _ 0 _ HN.out).mono ?_; rintro e W1 ⟨v9, rfl, hR, hb⟩; obtain ⟨A9, c9, rfl, hV9⟩ := R_news hR; have HV9 := Aside0.mk hV9; have R0 := Aside0.mk (blk_below B0.out hb); have R1 := Aside0.mk (blk_below B1.out hb); have HS1 := Aside0.mk hb.size; have HB1 := Aside0.mk (HB0.out.trans (hb.mono HB0.out.size)); have t0 := (blk_cell R0.out 0).trans rfl; have tf0 := blk_frozen R0.out 0; have t1 := (blk_cell R0.out 1).trans rfl; have tf1 := blk_frozen R0.out 1; have t2 := (blk_cell R0.out 2).trans rfl; have tf2 := blk_frozen R0.out 2; have k0 := (blk_cell R1.out 0).trans rfl; have kf0 := blk_frozen R1.out 0; have k1 := (blk_cell R1.out 1).trans rfl; have kf1 := blk_frozen R1.out 1; have k2 := (blk_cell R1.out 2).trans rfl; have kf2 := blk_frozen R1.out 2; clear hb hR hV9))
        have z := HZ.out
        have hs1 := HS1.out
        refine bodyPost_ret (results_ctt rfl _ _ (W.heap.size + 1) 26 #[.slice A ds.length c, .int .i64 last, .int .i64 ser] (0, 0) _ rfl (blk_put (blk_put (blk_put (R1.out) 0 _ rfl) 1 _ rfl) 2 _ rfl) Try.underlying26 rfl (by kernel_rfl)) rfl ?_
        have a1 : ∀ k, P k ∧ k < W.heap.size → k ≠ W.heap.size + 1 := fun k hk => by omega
        exact ⟨_, rfl, Kd.V_mono (V_box (V_box (V_box (Kd.V_below HVB.out HB1.out) (W.heap.size + 1) 0 a1 _) (W.heap.size + 1) 1 a1 _) (W.heap.size + 1) 2 a1 _) (fun k hk => .inl hk.1), ((HB1.out.setCell (p := ⟨W.heap.size + 1, 0, none⟩) (by dsimp only; omega) _).setCell (p := ⟨W.heap.size + 1, 1, none⟩) (by dsimp only; omega) _).setCell (p := ⟨W.heap.size + 1, 2, none⟩) (by dsimp only; omega) _⟩
      · have p1 : decide (pg < -1) = false := decide_eq_false e1
        have p2 : decide (6 ≤ pg) = true := decide_eq_true (by omega)
        clear e
        go_enter Try.func30, Try.ntmps30
        go_wp2_with (first | (go_at_call 70; rw [HW.out]; refine (vec_New.calls ar _ 0 _ HN.out).mono ?_; rintro e W1 ⟨v9, rfl, hR, hb⟩; obtain ⟨A9, c9, rfl, hV9⟩ := R_news hR; have HV9 := Aside0.mk hV9; have R0 := Aside0.mk (blk_below B0.out hb); have R1 := Aside0.mk (blk_below B1.out hb); have HS1 := Aside0.mk hb.size; have HB1 := Aside0.mk (HB0.out.trans (hb.mono HB0.out.size)); have t0 := (blk_cell R0.out 0).trans rfl; have tf0 := blk_frozen R0.out 0; have t1 := (blk_cell R0.out 1).trans rfl; have tf1 := blk_frozen R0.out 1; have t2 := (blk_cell R0.out 2).trans rfl; have tf2 := blk_frozen R0.out 2; have k0 := (blk_cell R1.out 0).trans rfl; have kf0 := blk_frozen R1.out 0; have k1 := (blk_cell R1.out 1).trans rfl; have kf1 := blk_frozen R1.out 1; have k2 := (blk_cell R1.out 2).trans rfl; have kf2 := blk_frozen R1.out 2; clear hb hR hV9))
        have z := HZ.out
        have hs1 := HS1.out
        refine bodyPost_ret (results_ctt rfl _ _ (W.heap.size + 1) 26 #[.slice A ds.length c, .int .i64 last, .int .i64 ser] (0, 0) _ rfl (blk_put (blk_put (blk_put (R1.out) 0 _ rfl) 1 _ rfl) 2 _ rfl) Try.underlying26 rfl (by kernel_rfl)) rfl ?_
        have a1 : ∀ k, P k ∧ k < W.heap.size → k ≠ W.heap.size + 1 := fun k hk => by omega
        exact ⟨_, rfl, Kd.V_mono (V_box (V_box (V_box (Kd.V_below HVB.out HB1.out) (W.heap.size + 1) 0 a1 _) (W.heap.size + 1) 1 a1 _) (W.heap.size + 1) 2 a1 _) (fun k hk => .inl hk.1), ((HB1.out.setCell (p := ⟨W.heap.size + 1, 0, none⟩) (by dsimp only; omega) _).setCell (p := ⟨W.heap.size + 1, 1, none⟩) (by dsimp only; omega) _).setCell (p := ⟨W.heap.size + 1, 2, none⟩) (by dsimp only; omega) _⟩
    · rw [if_neg e]
      have p1 : decide (pg < -1) = false := decide_eq_false (by omega)
      have p2 : decide (6 ≤ pg) = false := decide_eq_false (by omega)
      clear e
      obtain ⟨nl, hnl⟩ : ∃ y, y = List.replicate ar.toNat (0 : Int) := ⟨_, rfl⟩
      rw [← hnl] at HN ⊢
      obtain ⟨n1, hn1⟩ : ∃ y, y = wrap64 (ser + 1) := ⟨_, rfl⟩
      rw [← hn1]
      obtain ⟨t1, ht1⟩ : ∃ y, y = (tak ds ⟨n1, 0, 0, pg, false, nl⟩).1 := ⟨_, rfl⟩
      obtain ⟨t2, ht2⟩ : ∃ y, y = (tak ds ⟨n1, 0, 0, pg, false, nl⟩).2.1 := ⟨_, rfl⟩
      obtain ⟨t3, ht3⟩ : ∃ y, y = (tak ds ⟨n1, 0, 0, pg, false, nl⟩).2.2 := ⟨_, rfl⟩
      rw [← ht1, ← ht2, ← ht3]
      have HT1 := Aside0.mk ht1
      have HT2 := Aside0.mk ht2
      have HT3 := Aside0.mk ht3
      have HN1 := Aside0.mk hn1
      clear ht1 ht2 ht3 hnl hn1
      rcases (show (¬ t3 = 0) ∨ t3 = 0 by omega) with e | e
      · rw [if_neg e]
        have e1 : decide (t3 = 0) = false := decide_eq_false e
        have e2 : (t3 == 0) = false := by simpa using e
        clear e
        go_enter Try.func30, Try.ntmps30
        go_wp2_with (first | (go_at_call 70; rw [HW.out]; refine (vec_New.calls ar nl 0 _ HN.out).mono ?_; rintro e W1 ⟨v9, rfl, hR, hb⟩; obtain ⟨A9, c9, rfl, hV9⟩ := R_news hR; have HV9 := Aside0.mk hV9; have R0 := Aside0.mk (blk_below B0.out hb); have R1 := Aside0.mk (blk_below B1.out hb); have HS1 := Aside0.mk hb.size; have HB1 := Aside0.mk (HB0.out.trans (hb.mono HB0.out.size)); have tt0 := (blk_cell R0.out 0).trans rfl; have ttf0 := blk_frozen R0.out 0; have tt1 := (blk_cell R0.out 1).trans rfl; have ttf1 := blk_frozen R0.out 1; have tt2 := (blk_cell R0.out 2).trans rfl; have ttf2 := blk_frozen R0.out 2; have k0 := (blk_cell R1.out 0).trans rfl; have kf0 := blk_frozen R1.out 0; have k1 := (blk_cell R1.out 1).trans rfl; have kf1 := blk_frozen R1.out 1; have k2 := (blk_cell R1.out 2).trans rfl; have kf2 := blk_frozen R1.out 2; clear hb hR hV9) | (go_at_call 71; rw [← HN1.out]; have hS := oTake (W := W1) (P := fun k => (P k ∧ k < W.heap.size) ∨ W0.heap.size ≤ k) (last := last) HBIG.out (Kd.V_mono (Kd.V_below HVB.out HB1.out) (fun k hk => .inl hk)) (FO.ofV n1 0 0 pg false (Kd.V_mono (ok' := fun k => (P k ∧ k < W.heap.size) ∨ W0.heap.size ≤ k) HV9.out (fun k hk => .inr hk.1))); rw [← HT1.out, ← HT2.out, ← HT3.out] at hS; refine hS.mono ?_; clear hS; rintro e W5 ⟨v7, rfl, hV5, hb5⟩; obtain ⟨A7, c7, rfl, hl7, hF7⟩ := hV5; have HV7 := Aside0.mk (show Kd.V k82 82 W5 0 _ (.slice A7 t1.length c7) t1 from ⟨A7, c7, rfl, hl7, hF7⟩); have HB5 := Aside0.mk hb5; have K0 := Aside0.mk (blk_below R0.out hb5); have K1 := Aside0.mk (blk_below R1.out hb5); clear hb5 hl7 hF7; clear tt0 tt1 tt2 ttf0 ttf1 ttf2 k0 k1 k2 kf0 kf1 kf2) | ((with_reducible refine gate_dst (N := 11) rfl ?_); refine box_event ?hg (N := 11) ?hd (cs := #[.slice none 0 0, .int .i64 0]) (t := 24) ?hr ?_; (case hd => rfl); (case hg => rfl); (case hr => first | (go_simp; done) | (go_simp; rfl)); intro g11 hg W6 hbox hb; have s0 := (blk_cell hbox 0).trans rfl; have s1 := (blk_cell hbox 1).trans rfl; have sf0 := blk_frozen hbox 0; have sf1 := blk_frozen hbox 1; have HBB := Aside0.mk hb; have HG := Aside0.mk hg; have Q0 := Aside0.mk (blk_below K0.out hb); have Q1 := Aside0.mk (blk_below K1.out hb); have q0 := (blk_cell Q0.out 0).trans rfl; have qf0 := blk_frozen Q0.out 0; have q1 := (blk_cell Q0.out 1).trans rfl; have qf1 := blk_frozen Q0.out 1; have q2 := (blk_cell Q0.out 2).trans rfl; have qf2 := blk_frozen Q0.out 2; have u0 := (blk_cell Q1.out 0).trans rfl; have uf0 := blk_frozen Q1.out 0; have u1 := (blk_cell Q1.out 1).trans rfl; have uf1 := blk_frozen Q1.out 1; have u2 := (blk_cell Q1.out 2).trans rfl; have uf2 := blk_frozen Q1.out 2; have HS5 := Aside0.mk HB5.out.size; have m1 : W.heap.size ≠ g11 := (by have := HS1.out; have := HZ.out; have := HB5.out.size; omega); have m2 : W.heap.size + 1 ≠ g11 := (by have := HS1.out; have := HZ.out; have := HB5.out.size; omega); have m3 : g11 ≠ W.heap.size := Ne.symm m1; have m4 : g11 ≠ W.heap.size + 1 := Ne.symm m2; clear hbox hb hg))
        have z := HZ.out
        have hs1 := HS1.out
        have hs5 := HS5.out
        have hg := HG.out
        refine bodyPost_ret (results_ctt rfl _ _ (W.heap.size + 1) 26 #[.slice A ds.length c, .int .i64 last, .int .i64 ser] (0, 0) _ rfl (blk_put (blk_put (blk_put (blk_fr2 (blk_fr2 Q1.out g11 0 _ m2) g11 1 _ m2) 0 _ rfl) 1 _ rfl) 2 _ rfl) Try.underlying26 rfl (by kernel_rfl)) rfl ?_
        have hW6 : Below W.heap.size W W6 := (HB1.out.trans (HB5.out.mono HB1.out.size)).trans (HBB.out.mono (by omega))
        have hW7 := (hW6.setCell (p := ⟨g11, 0, none⟩) (by dsimp only; omega) (.slice A7 t1.length c7)).setCell (p := ⟨g11, 1, none⟩) (by dsimp only; omega) (.int .i64 last)
        have a1 : ∀ k, P k ∧ k < W.heap.size → k ≠ W.heap.size + 1 := fun k hk => by omega
        exact ⟨_, rfl, Kd.V_mono (V_box (V_box (V_box (Kd.V_below HVB.out hW7) (W.heap.size + 1) 0 a1 _) (W.heap.size + 1) 1 a1 _) (W.heap.size + 1) 2 a1 _) (fun k hk => .inl hk.1), ((hW7.setCell (p := ⟨W.heap.size + 1, 0, none⟩) (by dsimp only; omega) _).setCell (p := ⟨W.heap.size + 1, 1, none⟩) (by dsimp only; omega) _).setCell (p := ⟨W.heap.size + 1, 2, none⟩) (by dsimp only; omega) _⟩
      · rw [if_pos e]
        subst e
        go_enter Try.func30, Try.ntmps30
        go_wp2_with (first | (go_at_call 70; rw [HW.out]; refine (vec_New.calls ar nl 0 _ HN.out).mono ?_; rintro e W1 ⟨v9, rfl, hR, hb⟩; obtain ⟨A9, c9, rfl, hV9⟩ := R_news hR; have HV9 := Aside0.mk hV9; have R0 := Aside0.mk (blk_below B0.out hb); have R1 := Aside0.mk (blk_below B1.out hb); have HS1 := Aside0.mk hb.size; have HB1 := Aside0.mk (HB0.out.trans (hb.mono HB0.out.size)); have tt0 := (blk_cell R0.out 0).trans rfl; have ttf0 := blk_frozen R0.out 0; have tt1 := (blk_cell R0.out 1).trans rfl; have ttf1 := blk_frozen R0.out 1; have tt2 := (blk_cell R0.out 2).trans rfl; have ttf2 := blk_frozen R0.out 2; have k0 := (blk_cell R1.out 0).trans rfl; have kf0 := blk_frozen R1.out 0; have k1 := (blk_cell R1.out 1).trans rfl; have kf1 := blk_frozen R1.out 1; have k2 := (blk_cell R1.out 2).trans rfl; have kf2 := blk_frozen R1.out 2; clear hb hR hV9) | (go_at_call 71; rw [← HN1.out]; have hS := oTake (W := W1) (P := fun k => (P k ∧ k < W.heap.size) ∨ W0.heap.size ≤ k) (last := last) HBIG.out (Kd.V_mono (Kd.V_below HVB.out HB1.out) (fun k hk => .inl hk)) (FO.ofV n1 0 0 pg false (Kd.V_mono (ok' := fun k => (P k ∧ k < W.heap.size) ∨ W0.heap.size ≤ k) HV9.out (fun k hk => .inr hk.1))); rw [← HT1.out, ← HT2.out, ← HT3.out] at hS; refine hS.mono ?_; clear hS; rintro e W5 ⟨v7, rfl, hV5, hb5⟩; obtain ⟨A7, c7, rfl, hl7, hF7⟩ := hV5; have HV7 := Aside0.mk (show Kd.V k82 82 W5 0 _ (.slice A7 t1.length c7) t1 from ⟨A7, c7, rfl, hl7, hF7⟩); have HB5 := Aside0.mk hb5; have K0 := Aside0.mk (blk_below R0.out hb5); have K1 := Aside0.mk (blk_below R1.out hb5); clear hb5 hl7 hF7; clear tt0 tt1 tt2 ttf0 ttf1 ttf2 k0 k1 k2 kf0 kf1 kf2) | ((with_reducible refine gate_dst (N := 11) rfl ?_); refine box_event ?hg (N := 11) ?hd (cs := #[.slice none 0 0, .int .i64 0]) (t := 24) ?hr ?_; (case hd => rfl); (case hg => rfl); (case hr => first | (go_simp; done) | (go_simp; rfl)); intro g11 hg W6 hbox hb; have s0 := (blk_cell hbox 0).trans rfl; have s1 := (blk_cell hbox 1).trans rfl; have sf0 := blk_frozen hbox 0; have sf1 := blk_frozen hbox 1; have HBB := Aside0.mk hb; have HG := Aside0.mk hg; have Q0 := Aside0.mk (blk_below K0.out hb); have Q1 := Aside0.mk (blk_below K1.out hb); have q0 := (blk_cell Q0.out 0).trans rfl; have qf0 := blk_frozen Q0.out 0; have q1 := (blk_cell Q0.out 1).trans rfl; have qf1 := blk_frozen Q0.out 1; have q2 := (blk_cell Q0.out 2).trans rfl; have qf2 := blk_frozen Q0.out 2; have u0 := (blk_cell Q1.out 0).trans rfl; have uf0 := blk_frozen Q1.out 0; have u1 := (blk_cell Q1.out 1).trans rfl; have uf1 := blk_frozen Q1.out 1; have u2 := (blk_cell Q1.out 2).trans rfl; have uf2 := blk_frozen Q1.out 2; have HS5 := Aside0.mk HB5.out.size; have m1 : W.heap.size ≠ g11 := (by have := HS1.out; have := HZ.out; have := HB5.out.size; omega); have m2 : W.heap.size + 1 ≠ g11 := (by have := HS1.out; have := HZ.out; have := HB5.out.size; omega); have m3 : g11 ≠ W.heap.size := Ne.symm m1; have m4 : g11 ≠ W.heap.size + 1 := Ne.symm m2; clear hbox hb hg))
        simp only [← HN1.out]
        have z := HZ.out
        have hs1 := HS1.out
        have hs5 := HS5.out
        have hg := HG.out
        refine bodyPost_ret (results_ctt rfl _ _ (W.heap.size + 1) 26 #[.slice A7 t1.length c7, .int .i64 last, .int .i64 n1] (0, 0) _ rfl (blk_put (blk_put (blk_put (blk_fr2 (blk_fr2 Q1.out g11 0 _ m2) g11 1 _ m2) 0 _ rfl) 1 _ rfl) 2 _ rfl) Try.underlying26 rfl (by kernel_rfl)) rfl ?_
        have hW6 : Below W.heap.size W W6 := (HB1.out.trans (HB5.out.mono HB1.out.size)).trans (HBB.out.mono (by omega))
        have hW7 := (hW6.setCell (p := ⟨g11, 0, none⟩) (by dsimp only; omega) (.slice A7 t1.length c7)).setCell (p := ⟨g11, 1, none⟩) (by dsimp only; omega) (.int .i64 last)
        have hv := V_box (V_box (Kd.V_below (Kd.V_bound HV7.out) HBB.out) g11 0 (fun k hk => by omega) (.slice A7 t1.length c7)) g11 1 (fun k hk => by omega) (.int .i64 last)
        have a1 : ∀ k, (((P k ∧ k < W.heap.size) ∨ W0.heap.size ≤ k) ∨ W1.heap.size ≤ k) ∧ k < W5.heap.size → k ≠ W.heap.size + 1 := fun k hk => by omega
        exact ⟨_, rfl, Kd.V_mono (V_box (V_box (V_box (hv) (W.heap.size + 1) 0 a1 _) (W.heap.size + 1) 1 a1 _) (W.heap.size + 1) 2 a1 _) (fun k hk => by rcases hk.1 with (h | h) | h; exact .inl h.1; exact .inr (by omega); exact .inr (by omega)), ((hW7.setCell (p := ⟨W.heap.size + 1, 0, none⟩) (by dsimp only; omega) _).setCell (p := ⟨W.heap.size + 1, 1, none⟩) (by dsimp only; omega) _).setCell (p := ⟨W.heap.size + 1, 2, none⟩) (by dsimp only; omega) _⟩
end Go.Proofs.Ytkmjboeabmmecaa.MAll
