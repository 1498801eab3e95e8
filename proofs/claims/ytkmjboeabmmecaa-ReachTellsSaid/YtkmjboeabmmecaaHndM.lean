/- The search: its closure and its loops. Conditions: those of each lemma. -/
import Derived.Test.YtkmjboeabmmecaaMAllx17
import Derived.Test.YtkmjboeabmmecaaHndN
import Derived.Test.YtkmjboeabmmecaaHndG
import Derived.Test.YtkmjboeabmmecaaMAllhqueuePushint
import Derived.Test.YtkmjboeabmmecaaMAllhqueuePopint
namespace Go.Proofs.Ytkmjboeabmmecaa.MAll
open Go.RowKit Go.Proofs.YtkmjboeabmmecaaW.PrintWords Go.Proofs.YtkmjboeabmmecaaW.PrintLast Go.Proofs.YtkmjboeabmmecaaW.PrintMore
attribute [local go_sem] max2_int min2_int max_two min_two max_three min_three max_four min_four
set_option linter.unusedVariables false
set_option linter.unusedSimpArgs false
attribute [local go_sem] Oper.semAt_some
open Go.Shelf Go.Proofs.Ytkmjboeabmmecaa
structure AgX (bm bq : Nat) (W W' : World) : Prop where
  os : W'.os = W.os
  tape : W'.tape = W.tape
  output : W'.output = W.output
  size : W.heap.size ≤ W'.heap.size
  block : ∀ k, k < W.heap.size → k ≠ bm → k ≠ bq → W'.heap[k]? = W.heap[k]?
theorem AgX.of {bm bq : Nat} {W W' : World} (h : Below W.heap.size W W') : AgX bm bq W W' := ⟨h.os, h.tape, h.output, h.size, fun k hk _ _ => h.block k hk⟩
theorem AgX.trans {bm bq : Nat} {W W1 W2 : World} (h : AgX bm bq W W1) (h2 : AgX bm bq W1 W2) : AgX bm bq W W2 := ⟨h2.os.trans h.os, h2.tape.trans h.tape, h2.output.trans h.output, Nat.le_trans h.size h2.size, fun k hk h1 h3 => (h2.block k (Nat.lt_of_lt_of_le hk h.size) h1 h3).trans (h.block k hk h1 h3)⟩
theorem AgX.grown {bm bq : Nat} {W W' : World} (h : W.grownBy W' (some bm)) : AgX bm bq W W' := ⟨h.os, h.tape, h.output, h.size, fun k hk h1 _ => h.block k hk (fun e => h1 (by cases e; rfl))⟩
theorem AgX.set {bm bq : Nat} (W : World) (j : Nat) (u : Value) : AgX bm bq W (W.setCell ⟨bq, j, none⟩ u) := ⟨rfl, rfl, rfl, by simp, fun k _ _ h => Below.heap_setCell W ⟨bq, j, none⟩ u k h⟩
theorem AgX.below {bm bq n : Nat} {w0 W W' : World} (h : AgX bm bq W W') (hb : Below n w0 W) (hn : n ≤ W.heap.size) (h1 : n ≤ bm) (h2 : n ≤ bq) : Below n w0 W' := ⟨h.os.trans hb.os, h.tape.trans hb.tape, h.output.trans hb.output, Nat.le_trans hb.size h.size, fun k hk => (h.block k (by omega) (by omega) (by omega)).trans (hb.block k hk)⟩
theorem AgX.blk {bm bq k : Nat} {W W' : World} {o : Obj} (h : AgX bm bq W W') (hk : W.heap[k]? = some o) (h1 : k ≠ bm) (h2 : k ≠ bq) : W'.heap[k]? = some o := (h.block k (Array.getElem?_eq_some_iff.1 hk).1 h1 h2).trans hk
theorem AgX.V {α : Type} {d : Kd α} {e b bm bq : Nat} {ok : Nat → Prop} {W W' : World} {v : Value} {xs : List α} (h : AgX bm bq W W') (hV : Kd.V d e W b ok v xs) (hok : ∀ k, ok k → k ≠ bm ∧ k ≠ bq) : Kd.V d e W' b ok v xs := by
  obtain ⟨A, c, rfl, hl, hF⟩ := hV
  exact ⟨A, c, rfl, hl, fun W3 h3 => hF W3 (fun k hk hlt => (h3 k hk (Nat.lt_of_lt_of_le hlt h.size)).trans (h.block k hlt (hok k hk).1 (hok k hk).2))⟩
def seeF (ds : List S82) (st : List Int × List Int) (h : Int) : List Int × List Int := if (getd ds h).2 = 0 ∧ st.1.contains h = false then (h :: st.1, if (st.2.length : Int) ≥ 24 then st.2 else st.2 ++ [h]) else st
theorem pk_wf (s g : Int) : (Lit.int .i64 (pk s g)).wf = true := by
  unfold pk
  split
  · exact wrap64_wf _
  · decide
theorem getd_wf {ds : List S82} {h : Int} (e : (getd ds h).2 = 0) : (Lit.int .i64 h).wf = true := by
  unfold getd getv at e
  by_cases c : (fnd S82.f0 S82.f1 ds h).2 = 0
  · have hp : ∀ s i, fdIn S82.f0 S82.f1 ds s h = some i → (Lit.int .i64 h).wf = true := by
      intro s i hi
      unfold fdIn at hi
      have h1 := List.find?_some hi
      revert h1
      cases ds[i]? with
      | none => intro h1; exact absurd h1 (by simp)
      | some d =>
        intro h1
        simp only [Bool.and_eq_true, beq_iff_eq] at h1
        rw [← h1.2]; exact pk_wf _ _
    unfold fnd at c
    by_cases hz : h = 0
    · rw [if_pos hz] at c; exact absurd c (by decide)
    · rw [if_neg hz] at c
      cases h1 : fdIn S82.f0 S82.f1 ds 1 h with
      | some i => exact hp 1 i h1
      | none =>
        rw [h1] at c
        cases h2 : fdIn S82.f0 S82.f1 ds 2 h with
        | some i => exact hp 2 i h2
        | none => rw [h2] at c; exact absurd c (by decide)
  · rw [if_neg c] at e; exact absurd e c
structure SP (w0 : World) (n0 bs b6 bm bq : Nat) (A : Option Addr) (c : Nat) (ds : List S82) (last ser : Int) (st : List Int × List Int) (W : World) : Prop where
  bl : Below n0 w0 W
  sz : n0 ≤ bs ∧ n0 ≤ b6 ∧ n0 ≤ bm ∧ n0 ≤ bq ∧ bs ≠ bm ∧ bs ≠ bq ∧ b6 ≠ bm ∧ b6 ≠ bq ∧ bm ≠ bq
  cs : W.heap[bs]? = some (.cells #[.slice A ds.length c, .int .i64 last, .int .i64 ser] 26 (0, 0))
  c6 : W.heap[b6]? = some (.cells #[.map (some bm)] 89 (0, 0))
  sb : SetB W bm st.1.length st.1
  qb : ∃ Aq cq, W.heap[bq]? = some (.cells #[.slice Aq st.2.length cq, .int .i64 24] 134 (0, 0)) ∧ Kd.V (Kd.int .i64) 3 W 0 (fun k => k ≠ bm ∧ k ≠ bq) (.slice Aq st.2.length cq) st.2
theorem SP.below {w0 : World} {n0 bs b6 bm bq : Nat} {A : Option Addr} {c : Nat} {ds : List S82} {last ser : Int} {st : List Int × List Int} {W W' : World} (h : SP w0 n0 bs b6 bm bq A c ds last ser st W) (hb : Below W.heap.size W W') : SP w0 n0 bs b6 bm bq A c ds last ser st W' := by
  have hl := blk_lt h.cs
  obtain ⟨Aq, cq, h1, h2⟩ := h.qb
  exact ⟨h.bl.trans (hb.mono (by have := h.sz; omega)), h.sz, blk_below h.cs hb, blk_below h.c6 hb, h.sb.below hb, Aq, cq, blk_below h1 hb, AgX.V (AgX.of hb) h2 (fun _ hk => hk)⟩
set_option maxRecDepth 100000 in
set_option maxHeartbeats 8000000 in
theorem see_c {w0 : World} {n0 bs b6 bm bq : Nat} {A : Option Addr} {c : Nat} {ds : List S82} {last ser h : Int} {st : List Int × List Int} {W : World} (hbig : ds.length ≤ 1000000) (hV : ∀ W', Below n0 w0 W' → Kd.V k82 82 W' 0 (fun k => k < n0) (.slice A ds.length c) ds) (hst : st.1.length ≤ 1000000) (hS : SP w0 n0 bs b6 bm bq A c ds last ser st W) :
    Calls Try.prog 110 #[.int .i64 h, .pointer (some ⟨bs, 0, none⟩), .pointer (some ⟨b6, 0, none⟩), .pointer (some ⟨bq, 0, none⟩)] W fun e W' => (∃ v, e = .returned v) ∧ SP w0 n0 bs b6 bm bq A c ds last ser (seeF ds st h) W' ∧ AgX bm bq W W' := by
  have HS := Aside0.mk hS
  have HG := Aside0.mk (sGet (W := W) (last := last) (ser := ser) (h := h) hbig (hV W hS.bl))
  have HST := Aside0.mk hst
  have s0 := (blk_cell hS.cs 0).trans rfl
  have s1 := (blk_cell hS.cs 1).trans rfl
  have s2 := (blk_cell hS.cs 2).trans rfl
  unfold seeF
  obtain ⟨x, hx⟩ : ∃ x, x = getd ds h := ⟨_, rfl⟩
  have hwf := @getd_wf ds h
  rw [← hx] at HG hwf ⊢
  obtain ⟨d, r2⟩ := x
  dsimp only at HG hwf ⊢
  clear hV hst hbig hS hx
  by_cases e : r2 = 0
  · subst e
    have HWF := Aside0.mk (hwf rfl)
    clear hwf
    obtain ⟨bc, hbc⟩ : ∃ b, st.1.contains h = b := ⟨_, rfl⟩
    have HBC := Aside0.mk hbc
    cases bc with
    | true =>
      rw [if_neg (fun z => by rw [HBC.out] at z; exact absurd z.2 (by decide))]
      clear hbc
      go_enter Try.func110, Try.ntmps110
      go_upto_region 1 with (go_at_call 23; refine HG.out.mono ?_; rintro e w1 ⟨v, rfl, -, hb⟩; have HB1 := Aside0.mk hb; clear hb)
      obtain ⟨X, hX⟩ : ∃ X, w1.alloc (.cells #[.int .i64 v.ser, .int .i64 v.str, .int .i64 v.wk, .int .i64 v.pr, .bool v.sd, .slice v.fa v.fn v.fc] 29) = X := ⟨_, rfl⟩
      have HBX := Aside0.mk (show Below W.heap.size W X by rw [← hX]; exact HB1.out.alloc HB1.out.size _)
      rw [hX]
      have HSX := Aside0.mk (HS.out.below HBX.out)
      clear s0 s1 s2 hX HB1
      have m0 := (blk_cell HSX.out.c6 0).trans rfl
      have hlk := HSX.out.sb.look h HWF.out
      rw [HBC.out] at hlk
      go_wp2
      refine bodyPost_end (results_none rfl _ _ _) rfl ?_
      exact ⟨⟨_, rfl⟩, HSX.out, AgX.of HBX.out⟩
    | false =>
      rw [if_pos ⟨rfl, HBC.out⟩]
      obtain ⟨q10, hq10⟩ : ∃ q, q = (if (st.2.length : Int) ≥ 24 then st.2 else st.2 ++ [h]) := ⟨_, rfl⟩
      obtain ⟨e10, he10⟩ : ∃ q : Int, q = (if (st.2.length : Int) ≥ 24 then 4 else 0) := ⟨_, rfl⟩
      have HPU := Aside0.mk (show queue_Push_int.f st.2 24 h = some (q10, 24, e10) by
        rw [hq10, he10]
        unfold queue_Push_int.f
        by_cases z : (st.2.length : Int) ≥ 24
        · rw [if_pos z, if_pos z, if_pos z]
        · rw [if_neg z, if_neg z, if_neg z, if_pos (by omega)])
      rw [← hq10]
      clear hbc hq10 he10
      go_enter Try.func110, Try.ntmps110
      go_upto_region 1 with (go_at_call 23; refine HG.out.mono ?_; rintro e w1 ⟨v, rfl, -, hb⟩; have HB1 := Aside0.mk hb; clear hb)
      obtain ⟨X, hX⟩ : ∃ X, w1.alloc (.cells #[.int .i64 v.ser, .int .i64 v.str, .int .i64 v.wk, .int .i64 v.pr, .bool v.sd, .slice v.fa v.fn v.fc] 29) = X := ⟨_, rfl⟩
      have HBX := Aside0.mk (show Below W.heap.size W X by rw [← hX]; exact HB1.out.alloc HB1.out.size _)
      rw [hX]
      have HSX := Aside0.mk (HS.out.below HBX.out)
      clear s0 s1 s2 hX HB1
      have m0 := (blk_cell HSX.out.c6 0).trans rfl
      have hlk := HSX.out.sb.look h HWF.out
      rw [HBC.out] at hlk
      obtain ⟨w9, hrun, hs9, hg9⟩ := HSX.out.sb.store (by have := HST.out; unfold maxLen; omega) h HWF.out
      have HG9 := Aside0.mk (AgX.grown (bq := bq) hg9)
      have HS9 := Aside0.mk hs9
      obtain ⟨Aq, cq, hq1, hq2⟩ := HSX.out.qb
      obtain ⟨sz1, sz2, sz3, sz4, sz5, sz6, sz7, sz8, sz9⟩ := HSX.out.sz
      have Q9 := Aside0.mk (show w9.heap[bq]? = _ from (hg9.block bq (blk_lt hq1) (fun z => sz9 (by cases z; rfl))).trans hq1)
      have V9 := Aside0.mk (HG9.out.V hq2 (fun _ hk => hk))
      have q0 := (blk_cell Q9.out 0).trans rfl
      have q1 := (blk_cell Q9.out 1).trans rfl
      have f0 := blk_frozen Q9.out 0
      have f1 := blk_frozen Q9.out 1
      clear hs9 hg9 hq1 hq2
      go_wp2_with (first | (go_at_call 111; refine (queue_Push_int.calls _ Aq cq st.2 24 h _ _ _ w9 (Kd.V_mono V9.out (fun _ hk => hk)) HPU.out).mono ?_; rintro e w10 ⟨v0, rfl, hv, hb⟩; obtain ⟨A10, c10, rfl⟩ := Kd.V_slice hv; have V10 := Aside0.mk hv; have Q10 := Aside0.mk (blk_below Q9.out hb); have HB10 := Aside0.mk hb; clear q0 q1 f0 f1; have q0 := (blk_cell Q10.out 0).trans rfl; have q1 := (blk_cell Q10.out 1).trans rfl; have f0 := blk_frozen Q10.out 0; have f1 := blk_frozen Q10.out 1; clear hv hb))
      refine bodyPost_end (results_none rfl _ _ _) rfl ?_
      have G10 := (AgX.of (bm := bm) (bq := bq) HB10.out).trans ((AgX.set w10 0 (.slice A10 q10.length c10)).trans (AgX.set (w10.setCell ⟨bq, 0, none⟩ (.slice A10 q10.length c10)) 1 (.int .i64 24)))
      have GX := HG9.out.trans G10
      have B9 := HSX.out.bl
      have hsx := HSX.out.cs
      have hzx := HSX.out
      refine ⟨⟨_, rfl⟩, ⟨GX.below B9 (by have := blk_lt hsx; omega) sz3 sz4, ⟨sz1, sz2, sz3, sz4, sz5, sz6, sz7, sz8, sz9⟩, GX.blk hsx sz5 sz6, GX.blk HSX.out.c6 sz7 sz8, ?_, A10, c10, ?_, ?_⟩, (AgX.of HBX.out).trans GX⟩
      · have h1 := HS9.out.below HB10.out
        have hgs : ∀ (W : World) (j : Nat) (u : Value), W.grownBy (W.setCell ⟨bq, j, none⟩ u) (some bq) := fun W j u => ⟨rfl, rfl, rfl, by simp, fun k _ hk => Below.heap_setCell W ⟨bq, j, none⟩ u k (fun e => hk (by rw [e]))⟩
        exact (h1.kept (hgs _ _ _) (fun z => sz9 (by cases z; rfl))).kept (hgs _ _ _) (fun z => sz9 (by cases z; rfl))
      · exact blk_put (blk_put Q10.out 0 _ rfl) 1 _ rfl
      · have hv := Kd.V_mono V10.out (ok' := fun k => k ≠ bm ∧ k ≠ bq) (fun k hk => by
          rcases hk with hk | hk
          · exact hk
          · have h1 := blk_lt Q9.out
            have h2 := HS9.out.lt
            exact ⟨by omega, by omega⟩)
        exact V_box (V_box hv bq 0 (fun k hk => hk.2) _) bq 1 (fun k hk => hk.2) _
  · rw [if_neg (fun z => e z.1)]
    have e1 : decide (r2 = 0) = false := decide_eq_false e
    have e2 : (r2 == 0) = false := by simpa using e
    go_enter Try.func110, Try.ntmps110
    go_upto_region 1 with (go_at_call 23; refine HG.out.mono ?_; rintro e w1 ⟨v, rfl, -, hb⟩; have HB1 := Aside0.mk hb; clear hb)
    have HBX := Aside0.mk (HB1.out.alloc HB1.out.size (.cells #[.int .i64 v.ser, .int .i64 v.str, .int .i64 v.wk, .int .i64 v.pr, .bool v.sd, .slice v.fa v.fn v.fc] 29))
    go_wp2
    refine bodyPost_end (results_none rfl _ _ _) rfl ?_
    exact ⟨⟨_, rfl⟩, HS.out.below HBX.out, AgX.of HBX.out⟩
def seesF (ds : List S82) : List Int → List Int × List Int → Option (List Int × List Int)
  | [], st => some st
  | x :: xs, st => if st.1.length ≤ 1000000 then seesF ds xs (seeF ds st x) else none
def bfsF (ds : List S82) : Nat → List Int × List Int → Option (List Int × List Int)
  | 0, _ => none
  | k + 1, st => match st.2 with
    | [] => some st
    | h :: q => (seesF ds (outC ds h) (st.1, q)).bind (bfsF ds k)
theorem bfsF_mono (ds : List S82) : ∀ (k : Nat) (st r : List Int × List Int), bfsF ds k st = some r → bfsF ds (k + 1) st = some r
  | 0, st, r, h => by simp [bfsF] at h
  | k + 1, (seen, []), r, h => h
  | k + 1, (seen, x :: q), r, h => by
    unfold bfsF at h ⊢
    obtain ⟨s, h1, h2⟩ := Option.bind_eq_some_iff.mp h
    exact Option.bind_eq_some_iff.mpr ⟨s, h1, bfsF_mono ds k s r h2⟩
theorem R_keep {W w1 : World} {base : Nat} {v : Value} {xs : List Int} {row : Option Nat} (h : Kd.R (Kd.int .i64) 3 W base (fun _ => True) v xs) (hg : W.grownBy w1 row) (hne : ∀ k, row = some k → v.ownBlock ≠ some k) : Kd.R (Kd.int .i64) 3 w1 base (fun _ => True) v xs := by
  obtain ⟨_, inner, hown, hr⟩ := h
  obtain rfl := reps_int hr
  refine ⟨fun _ _ => trivial, _, hown.kept hg ?_, int_reps _ _ _ _⟩
  cases row with
  | none =>
    cases e : v.ownBlock with
    | none => exact .inl rfl
    | some k => exact .inr (by simp)
  | some k => exact .inr (hne k rfl)
theorem R_lt {W : World} {base : Nat} {v : Value} {xs : List Int} (h : Kd.R (Kd.int .i64) 3 W base (fun _ => True) v xs) {k : Nat} (hk : v.ownBlock = some k) : k < W.heap.size := by
  obtain ⟨_, inner, hown, _⟩ := h
  obtain ⟨cs, hc⟩ := own_typed hown k hk
  exact blk_lt hc
theorem AgX.C {bm bq : Nat} {W W' : World} {A : Option Addr} {c : Nat} {l : List Int} (h : AgX bm bq W W') (hV : Kd.V (Kd.int .i64) 3 W 0 (fun k => k ≠ bm ∧ k ≠ bq) (.slice A l.length c) l) : Kd.V (Kd.int .i64) 3 W' 0 (fun k => k ≠ bm ∧ k ≠ bq) (.slice A l.length c) l := h.V hV (fun _ hk => hk)
theorem SP.qput {w0 : World} {n0 bs b6 bm bq : Nat} {A : Option Addr} {c : Nat} {ds : List S82} {last ser : Int} {seen q q' : List Int} {W : World} (h : SP w0 n0 bs b6 bm bq A c ds last ser (seen, q) W) {A' : Option Addr} {c' : Nat} (hV : Kd.V (Kd.int .i64) 3 W 0 (fun k => k ≠ bm ∧ k ≠ bq) (.slice A' q'.length c') q') :
    SP w0 n0 bs b6 bm bq A c ds last ser (seen, q') ((W.setCell ⟨bq, 0, none⟩ (.slice A' q'.length c')).setCell ⟨bq, 1, none⟩ (.int .i64 24)) := by
  obtain ⟨Aq, cq, hq1, _⟩ := h.qb
  obtain ⟨sz1, sz2, sz3, sz4, sz5, sz6, sz7, sz8, sz9⟩ := h.sz
  have hcs := h.cs
  have GX := (AgX.set (bm := bm) (bq := bq) W 0 (.slice A' q'.length c')).trans (AgX.set (W.setCell ⟨bq, 0, none⟩ (.slice A' q'.length c')) 1 (.int .i64 24))
  have hgs : ∀ (W : World) (j : Nat) (u : Value), W.grownBy (W.setCell ⟨bq, j, none⟩ u) (some bq) := fun W j u => ⟨rfl, rfl, rfl, by simp, fun k _ hk => Below.heap_setCell W ⟨bq, j, none⟩ u k (fun e => hk (by rw [e]))⟩
  exact ⟨GX.below h.bl (by have := blk_lt hcs; omega) sz3 sz4, ⟨sz1, sz2, sz3, sz4, sz5, sz6, sz7, sz8, sz9⟩, GX.blk hcs sz5 sz6, GX.blk h.c6 sz7 sz8, (h.sb.kept (hgs _ _ _) (fun z => sz9 (by cases z; rfl))).kept (hgs _ _ _) (fun z => sz9 (by cases z; rfl)), A', c', blk_put (blk_put hq1 0 _ rfl) 1 _ rfl, V_box (V_box hV bq 0 (fun k hk => hk.2) _) bq 1 (fun k hk => hk.2) _⟩
set_option maxRecDepth 100000 in
set_option maxHeartbeats 16000000 in
theorem split_c (k : Nat) (W : World) (A : Option Addr) (c : Nat) (ds : List S82) (last ser : Int) (Al : Option Addr) (cl : Nat) (l : List Int) (hbig : ds.length ≤ 1000000) (hap : Apart82 ds) (hF : ∀ h, (getd ds h).1.f5.length ≤ 1000000) (hC : Kd.C k82 W A ds.length ds) (hc : ds.length ≤ c) (hCl : Kd.C (Kd.int .i64) W Al l.length l) (hcl : l.length ≤ cl) (hll : l.length ≤ 1000000)
    (stA stB : List Int × List Int) (hA : seesF ds l ([], []) = some stA) (hB : bfsF ds k stA = some stB) :
    Calls Try.prog 81 #[.agg #[.slice A ds.length c, .int .i64 last, .int .i64 ser], .slice Al l.length cl] W fun e W' => ∃ v1 v2, e = .returned (.tuple #[v1, v2]) ∧ Kd.R (Kd.int .i64) 3 W' W.heap.size (fun _ => True) v1 ((lvd ds).filter (fun h => stB.1.contains h)) ∧ Kd.R (Kd.int .i64) 3 W' W.heap.size (fun _ => True) v2 ((lvd ds).filter (fun h => !stB.1.contains h)) ∧ Below W.heap.size W W' := by
  have HVS := Aside0.mk (show ∀ W', Below W.heap.size W W' → Kd.V k82 82 W' 0 (fun k => k < W.heap.size) (.slice A ds.length c) ds from fun W' hb => Kd.V_mono (Kd.V_below (Kd.V_bound (mkV82 hC hc)) hb) (fun k hk => hk.2))
  have HCL := Aside0.mk hCl
  have HBIG := Aside0.mk hbig
  have HAP := Aside0.mk hap
  have HFF := Aside0.mk hF
  have HLL := Aside0.mk hll
  have HA := Aside0.mk hA
  have HBF := Aside0.mk hB
  clear hC hc hCl hbig hap hF hll hA hB
  obtain ⟨W0, hW0⟩ : ∃ W0, W.alloc (.cells #[.slice A ds.length c, .int .i64 last, .int .i64 ser] 26) = W0 := ⟨_, rfl⟩
  have HZ0 := Aside0.mk (show W0.heap.size = W.heap.size + 1 by rw [← hW0]; simp)
  have HB0 := Aside0.mk (show Below W.heap.size W W0 by rw [← hW0]; exact (Below.refl W.heap.size W).alloc (Nat.le_refl _) _)
  have CS0 := Aside0.mk (show W0.heap[W.heap.size]? = some (.cells #[.slice A ds.length c, .int .i64 last, .int .i64 ser] 26 (0, 0)) by rw [← hW0]; exact blk_new W _)
  have HW := Aside0.mk hW0
  clear hW0
  have hmm := @run_makeMap Try.prog
  go_enter Try.func81, Try.ntmps81
  go_upto_region 1 with (fail)
  rw [HW.out]
  go_upto_region 2 with (fail)
  obtain ⟨W1, hW1⟩ : ∃ W1, (W0.alloc (.map #[] 0)).alloc (.cells #[.map (some W0.heap.size)] 89) = W1 := ⟨_, rfl⟩
  have HZ1 := Aside0.mk (show W1.heap.size = W0.heap.size + 1 + 1 by rw [← hW1]; simp)
  have HB1 := Aside0.mk (show Below W0.heap.size W0 W1 by rw [← hW1]; exact ((Below.refl _ _).alloc (Nat.le_refl _) _).alloc (by simp) _)
  have HS1 := Aside0.mk (show SetB W1 W0.heap.size 0 [] by rw [← hW1]; exact (SetB.made W0).below ((Below.refl _ _).alloc (Nat.le_refl _) _))
  have C61 := Aside0.mk (show W1.heap[W0.heap.size + 1]? = some (.cells #[.map (some W0.heap.size)] 89 (0, 0)) by rw [← hW1]; have h := blk_new (W0.alloc (.map #[] 0)) (.cells #[.map (some W0.heap.size)] 89); rw [World.size_alloc] at h; exact h)
  rw [hW1]
  clear hW1 hmm
  go_upto_region 3 with (go_at_call 109; refine (queue_New_int.calls 24 [] 24 _ rfl).mono ?_; rintro e w2 ⟨v0, rfl, ho, hb⟩; obtain ⟨A2, c2, rfl⟩ := Kd.R_slice ho; have HB2 := Aside0.mk hb; clear hb ho)
  obtain ⟨W3, hW3⟩ : ∃ W3, w2.alloc (.cells #[.slice A2 0 c2, .int .i64 24] 134) = W3 := ⟨_, rfl⟩
  have HB3 := Aside0.mk (show Below W1.heap.size W1 W3 by rw [← hW3]; exact HB2.out.alloc HB2.out.size _)
  have HSP := Aside0.mk (show SP W W.heap.size W.heap.size (W0.heap.size + 1) W0.heap.size w2.heap.size A c ds last ser ([], []) W3 from by
    have hz0 := HZ0.out
    have hz1 := HZ1.out
    have hs2 := HB2.out.size
    refine ⟨HB0.out.trans ((HB1.out.mono HB0.out.size).trans (HB3.out.mono (by omega))), ⟨by omega, by omega, by omega, by omega, by omega, by omega, by omega, by omega, by omega⟩, blk_below (blk_below CS0.out HB1.out) HB3.out, blk_below C61.out HB3.out, HS1.out.below HB3.out, A2, c2, by rw [← hW3]; exact blk_new w2 _, A2, c2, rfl, Nat.zero_le _, fun W9 _ => ⟨rfl, by decide, fun h => absurd h (by decide)⟩⟩)
  rw [hW3]
  clear hW3
  go_wp2
  go_loopg [23] (l.length + 1) (fun kq v23 w' => ∃ (i : Nat) (st : List Int × List Int), v23 = .int .i64 (i : Int) ∧ Aside0 (i ≤ l.length ∧ kq + i = l.length + 1) ∧ Aside0 (seesF ds (l.drop i) st = some stA) ∧ Aside0 (SP W W.heap.size W.heap.size (W0.heap.size + 1) W0.heap.size w2.heap.size A c ds last ser st w'))
  case atStart => exact ⟨0, ([], []), by simp, ⟨by omega⟩, HA, HSP⟩
  case round =>
    clear HSP HA
    obtain ⟨i, st, rfl, HI, HSE, HS⟩ := hrel
    cases gk with
    | zero => exact absurd HI.out (by omega)
    | succ k1 =>
      by_cases c5 : i < l.length
      · have c5b := decide_eq_true (p := (i : Int) < (l.length : Int)) (by omega)
        have hi0 : (0 : Int) ≤ (i : Int) := by omega
        have hi1 : (i : Int) < (l.length : Int) := by omega
        obtain ⟨ad, e7, hx⟩ := Kd.at_int (Kd.C_below HCL.out HS.out.bl) (i : Int) hi0 hi1
        cases e7
        rw [Int.toNat_natCast] at hx
        replace hi0 := eq_true hi0
        replace hi1 := eq_true hi1
        have hse := HSE.out
        obtain ⟨x, hxx⟩ : ∃ x, x = l[i] := ⟨_, rfl⟩
        rw [List.drop_eq_getElem_cons c5, ← hxx] at hse
        unfold seesF at hse
        have hb1 : st.1.length ≤ 1000000 := by
          by_cases z : st.1.length ≤ 1000000
          · exact z
          · rw [if_neg z] at hse; cases hse
        rw [if_pos hb1] at hse
        have HSE2 := Aside0.mk hse
        have HB1L := Aside0.mk hb1
        have C5 := Aside0.mk c5
        have hrd : rd l (i : Int) = l[i] := by unfold rd; rw [Int.toNat_natCast, List.getD_eq_getElem?_getD, List.getElem?_eq_getElem c5]; rfl
        rw [hrd, ← hxx] at hx
        clear hse hb1 hrd hxx c5 HSE
        go_wp2_with (go_at_call 110; refine (see_c HBIG.out HVS.out HB1L.out HS.out).mono ?_; rintro e w5 ⟨⟨v, rfl⟩, hs, -⟩; have HS5 := Aside0.mk hs; clear hs)
        go_roundg k1
        case measure => omega
        case rel => exact ⟨i + 1, _, by first | rfl | exact congrArg _ (w1_of (by have := HLL.out; have := C5.out; omega)), ⟨by have := HI.out; have := C5.out; omega⟩, HSE2, HS5⟩
      · have c5b := decide_eq_false (p := (i : Int) < (l.length : Int)) (by omega)
        obtain rfl : i = l.length := by have := HI.out; omega
        have hse := HSE.out
        rw [List.drop_eq_nil_of_le (Nat.le_refl _)] at hse
        have HSA := Aside0.mk (Option.some.inj hse)
        clear hse c5 HSE
        go_wp2
        go_loopg [31] k (fun kq v31 w' => ∃ (st : List Int × List Int), Aside0 (bfsF ds kq st = some stB) ∧ Aside0 (SP W W.heap.size W.heap.size (W0.heap.size + 1) W0.heap.size w2.heap.size A c ds last ser st w'))
        case atStart => exact ⟨st, ⟨by rw [HSA.out]; exact HBF.out⟩, HS⟩
        case round =>
          clear HS HSA HBF HI
          obtain ⟨st, HBQ, HS⟩ := hrel
          cases gk with
          | zero => exact absurd HBQ.out (by simp [bfsF])
          | succ k1 =>
            obtain ⟨seen, q⟩ := st
            obtain ⟨Aq, cq, hq1, hq2⟩ := HS.out.qb
            have hqr := Kd.V_reads' hq2
            have QC := Aside0.mk hqr.2.2
            have QL := Aside0.mk hqr.2.1
            have Q1 := Aside0.mk hq1
            have QV := Aside0.mk hq2
            have q0 := (blk_cell hq1 0).trans rfl
            have q1 := (blk_cell hq1 1).trans rfl
            clear hqr hq1 hq2
            cases q with
            | nil =>
              have hse := HBQ.out
              unfold bfsF at hse
              have HSA := Aside0.mk (Option.some.inj hse)
              clear hse HBQ
              go_upto_region 17 with (go_at_call 112; refine (queue_Len_int.calls Aq cq [] 24 _ _ QC.out QL.out rfl).mono ?_; rintro e w5 ⟨rfl, hb⟩; have HS5 := Aside0.mk (HS.out.below hb); clear hb q0 q1)
              have hst := HSA.out
              subst hst
              clear HSA QC QL Q1 QV
              have s0 := (blk_cell HS5.out.cs 0).trans rfl
              have s1 := (blk_cell HS5.out.cs 1).trans rfl
              have s2 := (blk_cell HS5.out.cs 2).trans rfl
              go_upto_region 18 with (go_at_call 29; refine (sLive (last := last) (ser := ser) HBIG.out HAP.out (HVS.out w5 HS5.out.bl)).mono ?_; rintro e w8 ⟨v, rfl, ho, hb⟩; obtain ⟨A9, c9, rfl, hl9, hC9⟩ := Kd.R_reads ho; have HC9 := Aside0.mk hC9; have HS8 := Aside0.mk (HS5.out.below hb); clear s0 s1 s2 ho hb hl9 hC9)
              go_loopg [4, 5, 56] ((lvd ds).length + 1) (fun kq v4 v5 v56 w' => ∃ i : Nat, v56 = .int .i64 (i : Int) ∧ Aside0 (i ≤ (lvd ds).length ∧ kq + i = (lvd ds).length + 1) ∧ Aside0 (Kd.R (Kd.int .i64) 3 w' w8.heap.size (fun _ => True) v4 (((lvd ds).take i).filter (fun h => seen.contains h))) ∧ Aside0 (Kd.R (Kd.int .i64) 3 w' w8.heap.size (fun _ => True) v5 (((lvd ds).take i).filter (fun h => !seen.contains h))) ∧ Aside0 (∀ k, v4.ownBlock = some k → v5.ownBlock ≠ some k) ∧ Aside0 (Below w8.heap.size w8 w'))
              case atStart => exact ⟨0, by simp, ⟨by omega⟩, ⟨Kd.R_nil _ _ _ _ _⟩, ⟨Kd.R_nil _ _ _ _ _⟩, ⟨fun k hk => by simp [Value.ownBlock] at hk⟩, ⟨Below.refl _ _⟩⟩
              case round =>
                obtain ⟨i, rfl, HI, HR4, HR5, HNE, HB⟩ := hrel
                cases gk with
                | zero => exact absurd HI.out (by omega)
                | succ k2 =>
                  have HLV := Aside0.mk (Nat.le_trans (by rw [lvd_len, lvN_len]; exact plc_len _ _ : (lvd ds).length ≤ ds.length) HBIG.out)
                  by_cases c7 : i < (lvd ds).length
                  · have c7b := decide_eq_true (p := (i : Int) < ((lvd ds).length : Int)) (by omega)
                    have hi0 : (0 : Int) ≤ (i : Int) := by omega
                    have hi1 : (i : Int) < ((lvd ds).length : Int) := by omega
                    obtain ⟨ad, e7, hx⟩ := Kd.at_int (Kd.C_below HC9.out HB.out) (i : Int) hi0 hi1
                    cases e7
                    rw [Int.toNat_natCast] at hx
                    replace hi0 := eq_true hi0
                    replace hi1 := eq_true hi1
                    obtain ⟨x, hxx⟩ : ∃ x, x = (lvd ds)[i] := ⟨_, rfl⟩
                    have hrd : rd (lvd ds) (i : Int) = (lvd ds)[i] := by unfold rd; rw [Int.toNat_natCast, List.getD_eq_getElem?_getD, List.getElem?_eq_getElem c7]; rfl
                    have HTK := Aside0.mk (show (lvd ds).take (i + 1) = (lvd ds).take i ++ [x] by rw [hxx]; exact List.take_succ_eq_append_getElem c7)
                    have hwf : (Lit.int .i64 x).wf = true := by
                      have hm : x ∈ lvd ds := by rw [hxx]; exact List.getElem_mem _
                      unfold lvd at hm
                      obtain ⟨n, _, rfl⟩ := List.mem_map.mp hm
                      exact pk_wf _ _
                    rw [hrd, ← hxx] at hx
                    have hlk := (HS8.out.sb.below HB.out).look x hwf
                    have m0 := (blk_cell (blk_below HS8.out.c6 HB.out) 0).trans rfl
                    have C7 := Aside0.mk c7
                    obtain ⟨bc, hbc⟩ : ∃ b, seen.contains x = b := ⟨_, rfl⟩
                    have HBC := Aside0.mk hbc
                    dsimp only at hlk
                    rw [hbc] at hlk
                    clear hwf hrd hxx hbc c7
                    have L4 := Aside0.mk (show (((lvd ds).take i).filter (fun h => seen.contains h)).length ≤ 1000000 by refine Nat.le_trans (List.length_filter_le _ _) ?_; rw [List.length_take]; have := HLV.out; omega)
                    have L5 := Aside0.mk (show (((lvd ds).take i).filter (fun h => !seen.contains h)).length ≤ 1000000 by refine Nat.le_trans (List.length_filter_le _ _) ?_; rw [List.length_take]; have := HLV.out; omega)
                    cases bc with
                    | true =>
                      go_wp2_with (((with_reducible refine gate_builtin (b := .append) (xs := #[.tmp 63, .tmp 65]) rfl ?_); at_builtin; refine Kd.R_append (Kd.int .i64) (w0 := w8) w8.heap.size rfl (.tmp 63) (.tmp 65) 27 3 (.int .i64 0) 8 rfl Try.underlying27 info3 rfl (by decide) (by omega) u4 (((lvd ds).take i).filter (fun h => seen.contains h)) x [.int .i64 x] (fun _ => True) (fun _ => False) rfl rfl ?aP (fun _ hk => hk.elim) (fun _ _ => trivial) ?aO ?aB ?aS ?aL ?_; (case aP => exact rfl); (case aB => exact HB.out); (case aO => exact HR4.out); (case aS => exact HB.out.size); (case aL => have := L4.out; omega); intro v23 w11 ho hb hg hat; have HO := Aside0.mk ho; have HBN := Aside0.mk hb; have HG := Aside0.mk hg; have HAT := Aside0.mk hat; clear ho hb hg hat))
                      go_roundg k2
                      case measure => omega
                      case rel =>
                        have e1 : ((lvd ds).take (i + 1)).filter (fun h => seen.contains h) = ((lvd ds).take i).filter (fun h => seen.contains h) ++ [x] := by rw [HTK.out, List.filter_append, List.filter_cons, List.filter_nil, HBC.out]; rfl
                        have e2 : ((lvd ds).take (i + 1)).filter (fun h => !seen.contains h) = ((lvd ds).take i).filter (fun h => !seen.contains h) ++ [] := by rw [HTK.out, List.filter_append, List.filter_cons, List.filter_nil, HBC.out]; rfl
                        refine ⟨i + 1, by first | rfl | exact congrArg _ (w1_of (by have := HLV.out; have := C7.out; omega)), ⟨by have := HI.out; have := C7.out; omega⟩, ?_, ?_, ?_, HBN⟩
                        · exact ⟨by rw [e1]; exact HO.out⟩
                        · exact ⟨by rw [e2, List.append_nil]; exact R_keep HR5.out HG.out HNE.out⟩
                        · refine ⟨fun k hk hk5 => ?_⟩
                          rcases HAT.out with e | ⟨b, e, hb⟩
                          · exact HNE.out k (e ▸ hk) hk5
                          · have := R_lt HR5.out hk5
                            rw [e] at hk; cases hk; omega
                    | false =>
                      go_wp2_with (((with_reducible refine gate_builtin (b := .append) (xs := #[.tmp 67, .tmp 69]) rfl ?_); at_builtin; refine Kd.R_append (Kd.int .i64) (w0 := w8) w8.heap.size rfl (.tmp 67) (.tmp 69) 27 3 (.int .i64 0) 8 rfl Try.underlying27 info3 rfl (by decide) (by omega) u5 (((lvd ds).take i).filter (fun h => !seen.contains h)) x [.int .i64 x] (fun _ => True) (fun _ => False) rfl rfl ?aP (fun _ hk => hk.elim) (fun _ _ => trivial) ?aO ?aB ?aS ?aL ?_; (case aP => exact rfl); (case aB => exact HB.out); (case aO => exact HR5.out); (case aS => exact HB.out.size); (case aL => have := L5.out; omega); intro v23 w11 ho hb hg hat; have HO := Aside0.mk ho; have HBN := Aside0.mk hb; have HG := Aside0.mk hg; have HAT := Aside0.mk hat; clear ho hb hg hat))
                      go_roundg k2
                      case measure => omega
                      case rel =>
                        have e1 : ((lvd ds).take (i + 1)).filter (fun h => seen.contains h) = ((lvd ds).take i).filter (fun h => seen.contains h) ++ [] := by rw [HTK.out, List.filter_append, List.filter_cons, List.filter_nil, HBC.out]; rfl
                        have e2 : ((lvd ds).take (i + 1)).filter (fun h => !seen.contains h) = ((lvd ds).take i).filter (fun h => !seen.contains h) ++ [x] := by rw [HTK.out, List.filter_append, List.filter_cons, List.filter_nil, HBC.out]; rfl
                        refine ⟨i + 1, by first | rfl | exact congrArg _ (w1_of (by have := HLV.out; have := C7.out; omega)), ⟨by have := HI.out; have := C7.out; omega⟩, ?_, ?_, ?_, HBN⟩
                        · exact ⟨by rw [e1, List.append_nil]; exact R_keep HR4.out HG.out (fun k hk h4 => HNE.out k h4 hk)⟩
                        · exact ⟨by rw [e2]; exact HO.out⟩
                        · refine ⟨fun k hk hk5 => ?_⟩
                          rcases HAT.out with e | ⟨b, e, hb⟩
                          · exact HNE.out k hk (e ▸ hk5)
                          · have := R_lt HR4.out hk
                            rw [e] at hk5; cases hk5; omega
                  · have c7b := decide_eq_false (p := (i : Int) < ((lvd ds).length : Int)) (by omega)
                    obtain rfl : i = (lvd ds).length := by have := HI.out; omega
                    have h4 := HR4.out
                    have h5 := HR5.out
                    rw [List.take_length] at h4 h5
                    have H4 := Aside0.mk h4
                    have H5 := Aside0.mk h5
                    clear h4 h5 c7
                    go_wp2
                    go_ret2
                    have hsz : W.heap.size ≤ w8.heap.size := HS8.out.bl.size
                    exact ⟨u4, u5, rfl, by first | exact Kd.R_lower H4.out hsz | simpa using Kd.R_lower H4.out hsz, by first | exact Kd.R_lower H5.out hsz | simpa using Kd.R_lower H5.out hsz, HS8.out.bl.trans (HB.out.mono hsz)⟩
            | cons h q' =>
              have hse := HBQ.out
              unfold bfsF at hse
              have HBQ2 := Aside0.mk hse
              clear hse HBQ
              have hpos := decide_eq_true (p := (0 : Int) < (((h :: q').length : Nat) : Int)) (by simp)
              have HPO := Aside0.mk (show queue_Pop_int.f (h :: q') 24 = some (q', 24, h, 0) from rfl)
              go_upto_region 12 with (first | (go_at_call 112; refine (queue_Len_int.calls Aq cq (h :: q') 24 _ _ QC.out QL.out rfl).mono ?_; rintro e w5 ⟨rfl, hb⟩; have HS5 := Aside0.mk (HS.out.below hb); have Q5 := Aside0.mk (blk_below Q1.out hb); have QV5 := Aside0.mk (AgX.C (AgX.of hb) QV.out); clear q0 q1; have q0 := (blk_cell Q5.out 0).trans rfl; have q1 := (blk_cell Q5.out 1).trans rfl; clear hb) | (go_at_call 113; refine (queue_Pop_int.calls _ Aq cq (h :: q') 24 _ _ _ _ w5 (Kd.V_mono QV5.out (fun _ hk => hk)) HPO.out).mono ?_; rintro e w6 ⟨v0, rfl, hv, hb⟩; obtain ⟨A6, c6, rfl⟩ := Kd.V_slice hv; have V6 := Aside0.mk hv; have Q6 := Aside0.mk (blk_below Q5.out hb); have HS6 := Aside0.mk (HS5.out.below hb); have HB6 := Aside0.mk hb; clear q0 q1; have q0 := (blk_cell (blk_alloc Q6.out (.cells #[.slice A6 q'.length c6, .int .i64 24] 134)) 0).trans rfl; have q1 := (blk_cell (blk_alloc Q6.out (.cells #[.slice A6 q'.length c6, .int .i64 24] 134)) 1).trans rfl; have f0 := blk_frozen (blk_alloc Q6.out (.cells #[.slice A6 q'.length c6, .int .i64 24] 134)) 0; have f1 := blk_frozen (blk_alloc Q6.out (.cells #[.slice A6 q'.length c6, .int .i64 24] 134)) 1; clear hv hb))
              have HS7 := Aside0.mk ((HS6.out.below ((Below.refl _ _).alloc (Nat.le_refl _) (.cells #[.slice A6 q'.length c6, .int .i64 24] 134))).qput (q' := q') (Kd.V_mono (Kd.V_below V6.out ((Below.refl _ _).alloc (Nat.le_refl _) _)) (fun k hk => by
                have h1 := blk_lt Q5.out
                have h2 := HS5.out.sb.lt
                rcases hk with hk | hk
                · exact hk
                · exact ⟨by omega, by omega⟩)))
              generalize ((w6.alloc (.cells #[.slice A6 q'.length c6, .int .i64 24] 134)).setCell ⟨w2.heap.size, 0, none⟩ (.slice A6 q'.length c6)).setCell ⟨w2.heap.size, 1, none⟩ (.int .i64 24) = W7 at HS7 ⊢
              clear q0 q1 f0 f1 V6 Q6 HS6 HB6 Q5 HS5 QV5 QC QL Q1 QV HPO hpos
              have s0 := (blk_cell HS7.out.cs 0).trans rfl
              have s1 := (blk_cell HS7.out.cs 1).trans rfl
              have s2 := (blk_cell HS7.out.cs 2).trans rfl
              obtain ⟨out, hout⟩ : ∃ o, o = outC ds h := ⟨_, rfl⟩
              have HRO := Aside0.mk (rOut (h := h) (last := last) (ser := ser) HBIG.out HFF.out (HVS.out W7 HS7.out.bl))
              rw [← hout] at HBQ2 HRO
              obtain ⟨stM, hm1, hm2⟩ := Option.bind_eq_some_iff.mp HBQ2.out
              have HM1 := Aside0.mk hm1
              have HM2 := Aside0.mk hm2
              have HOL := Aside0.mk (show out.length ≤ 1000000 by rw [hout]; unfold outC; split; exact Nat.le_trans (nz_len _) (HFF.out h); exact Nat.zero_le _)
              clear hm1 hm2 HBQ2 hout
              go_upto_region 13 with (go_at_call 36; refine HRO.out.mono ?_; rintro e w8 ⟨v, rfl, ho, hb⟩; obtain ⟨A8, c8, rfl, hv8⟩ := R_news ho; have V8 := Aside0.mk (Kd.V_mono hv8 (ok' := fun k => k ≠ W0.heap.size ∧ k ≠ w2.heap.size) (fun k hk => by
                obtain ⟨Aq, cq, hq1, _⟩ := HS7.out.qb
                have h1 := blk_lt hq1
                have h2 := HS7.out.sb.lt
                exact ⟨by omega, by omega⟩)); have HS8 := Aside0.mk (HS7.out.below hb); clear s0 s1 s2 ho hb hv8)
              go_loopg [45] (out.length + 1) (fun kq v45 w' => ∃ (j : Nat) (st : List Int × List Int), v45 = .int .i64 (j : Int) ∧ Aside0 (j ≤ out.length ∧ kq + j = out.length + 1) ∧ Aside0 (seesF ds (out.drop j) st = some stM) ∧ Aside0 (SP W W.heap.size W.heap.size (W0.heap.size + 1) W0.heap.size w2.heap.size A c ds last ser st w') ∧ Aside0 (Kd.V (Kd.int .i64) 3 w' 0 (fun k => k ≠ W0.heap.size ∧ k ≠ w2.heap.size) (.slice A8 out.length c8) out))
              case atStart => exact ⟨0, (seen, q'), by simp, ⟨by omega⟩, HM1, HS8, V8⟩
              case round =>
                clear HS8 HM1 V8 HS7
                obtain ⟨j, st, rfl, HJ, HSE, HS9, HV9⟩ := hrel
                cases gk with
                | zero => exact absurd HJ.out (by omega)
                | succ k2 =>
                  by_cases c7 : j < out.length
                  · have c7b := decide_eq_true (p := (j : Int) < (out.length : Int)) (by omega)
                    have hj0 : (0 : Int) ≤ (j : Int) := by omega
                    have hj1 : (j : Int) < (out.length : Int) := by omega
                    obtain ⟨ad, e7, hx⟩ := Kd.at_int (Kd.V_reads' HV9.out).2.2 (j : Int) hj0 hj1
                    cases e7
                    rw [Int.toNat_natCast] at hx
                    replace hj0 := eq_true hj0
                    replace hj1 := eq_true hj1
                    have hse := HSE.out
                    obtain ⟨x, hxx⟩ : ∃ x, x = out[j] := ⟨_, rfl⟩
                    rw [List.drop_eq_getElem_cons c7, ← hxx] at hse
                    unfold seesF at hse
                    have hb1 : st.1.length ≤ 1000000 := by
                      by_cases z : st.1.length ≤ 1000000
                      · exact z
                      · rw [if_neg z] at hse; cases hse
                    rw [if_pos hb1] at hse
                    have HSE2 := Aside0.mk hse
                    have HB1L := Aside0.mk hb1
                    have C7 := Aside0.mk c7
                    have hrd : rd out (j : Int) = out[j] := by unfold rd; rw [Int.toNat_natCast, List.getD_eq_getElem?_getD, List.getElem?_eq_getElem c7]; rfl
                    rw [hrd, ← hxx] at hx
                    clear hse hb1 hrd hxx c7 HSE
                    go_wp2_with (go_at_call 110; refine (see_c HBIG.out HVS.out HB1L.out HS9.out).mono ?_; rintro e w9 ⟨⟨v, rfl⟩, hs, hag⟩; have HS10 := Aside0.mk hs; have HV10 := Aside0.mk (hag.C HV9.out); clear hs hag)
                    go_roundg k2
                    case measure => omega
                    case rel => exact ⟨j + 1, _, by first | rfl | exact congrArg _ (w1_of (by have := HOL.out; have := C7.out; omega)), ⟨by have := HJ.out; have := C7.out; omega⟩, HSE2, HS10, HV10⟩
                  · have c7b := decide_eq_false (p := (j : Int) < (out.length : Int)) (by omega)
                    obtain rfl : j = out.length := by have := HJ.out; omega
                    have hse := HSE.out
                    rw [List.drop_eq_nil_of_le (Nat.le_refl _)] at hse
                    have HSM := Aside0.mk (Option.some.inj hse)
                    clear hse c7 HSE
                    go_wp2
                    go_roundg k1
                    case measure => omega
                    case rel => exact ⟨st, ⟨by rw [HSM.out]; exact HM2.out⟩, HS9⟩
end Go.Proofs.Ytkmjboeabmmecaa.MAll
