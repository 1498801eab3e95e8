/- Who names whom: the walk from name to name. Conditions: those of each lemma. -/
import Derived.Test.YtkmjboeabmmecaaHndE
import Derived.WalkMore
namespace Go.Proofs.Ytkmjboeabmmecaa.MAll
open Go.RowKit Go.Proofs.YtkmjboeabmmecaaW.PrintWords Go.Proofs.YtkmjboeabmmecaaW.PrintLast Go.Proofs.YtkmjboeabmmecaaW.PrintMore
attribute [local go_sem] max2_int min2_int max_two min_two max_three min_three max_four min_four
set_option linter.unusedVariables false
set_option linter.unusedSimpArgs false
attribute [local go_sem] Oper.semAt_some
open Go.Shelf Go.Proofs.Ytkmjboeabmmecaa
def nz (l : List Int) : List Int := l.filter fun x => x != 0
theorem nz_hit (l : List Int) (k : Nat) (h : k < l.length) (hx : (rd l (k : Int) != 0) = true) : nz (l.take (k + 1)) = nz (l.take k) ++ [rd l (k : Int)] := by
  have e : rd l (k : Int) = l[k] := by unfold rd; rw [Int.toNat_natCast, List.getD_eq_getElem?_getD, List.getElem?_eq_getElem h]; rfl
  rw [e] at hx ⊢
  unfold nz
  rw [List.take_succ_eq_append_getElem h, List.filter_append]
  simp [hx]
theorem nz_miss (l : List Int) (k : Nat) (h : k < l.length) (hx : (rd l (k : Int) != 0) = false) : nz (l.take (k + 1)) = nz (l.take k) := by
  have e : rd l (k : Int) = l[k] := by unfold rd; rw [Int.toNat_natCast, List.getD_eq_getElem?_getD, List.getElem?_eq_getElem h]; rfl
  rw [e] at hx
  unfold nz
  rw [List.take_succ_eq_append_getElem h, List.filter_append]
  simp [hx]
theorem nz_prefix (l : List Int) (k : Nat) : nz (l.take k) <+: nz l := by
  unfold nz
  exact (List.take_prefix k l).filter _
theorem nz_len (l : List Int) : (nz l).length ≤ l.length := List.length_filter_le _ _
set_option maxRecDepth 100000 in
set_option maxHeartbeats 2000000 in
theorem named1_in (F : Fence) (n : Nat) (h17 : F.fn 133) (hro : F.round = none) (hn : 1 ≤ n) (l Bs n₀ : Nat) (A : Option Addr) (c : Nat) (xs : List Int) (hcap : xs.length ≤ c) (hbig : xs.length ≤ 1000000) (J Jx : List Int → World → Prop)
    (hY : ∀ pre x W, J pre W → pre.length < xs.length → YieldAt F (n - 1) Try.prog l #[.int .i64 x] W fun e W' =>
      (e = .returned (.bool true) ∧ J (pre ++ [x]) W' ∧ Below n₀ W W') ∨ (e = .returned (.bool false) ∧ Jx (pre ++ [x]) W'))
    (W : World) (hBs : W.cell? ⟨Bs, 0, none⟩ = some (.slice A xs.length c)) (hC : ∀ W', Below n₀ W W' → Kd.C (Kd.int .i64) W' A xs.length xs) (h0 : J [] W) :
    CallsIn F n Try.prog 133 #[.func (.yield l) #[] #[], .pointer (some ⟨Bs, 0, none⟩)] W fun e W' => (∃ v, e = .returned v) ∧
      ((∃ ys, ys = nz xs ∧ J ys W') ∨ (∃ pre, pre <+: nz xs ∧ Jx pre W')) := by
  have HC := Aside0.mk hC
  clear hC
  refine callsIn_of_wp Try.func133 rfl h17 ?_ hro
  simp only [Try.ntmps133, List.size_toArray, List.length_cons, List.length_nil, Nat.reduceAdd, Nat.reduceSub, Array.replicate_succ, Array.replicate_zero, List.push_toArray, List.append_toArray, List.nil_append, List.cons_append]
  gi_wp2
  gi_loopw [7] (fun i wr => ∃ k : Nat, k ≤ xs.length ∧ i = .int .i64 k ∧ J (nz (xs.take k)) wr ∧ Below n₀ W wr)
    (fun i _ => xs.length - (intOf i).toNat)
  case atStart => exact ⟨0, Nat.zero_le _, rfl, by simpa [nz] using h0, Below.refl _ _⟩
  case round =>
    obtain ⟨k, hk, rfl, hJs, hnx⟩ := hrel
    by_cases hlt : k < xs.length
    · obtain ⟨ad, e, hcx⟩ := Kd.at_int (HC.out wr hnx) (k : Int) (by omega) (by omega)
      cases e
      rw [Int.toNat_natCast] at hcx
      cases hx : (rd xs (k : Int) != 0) with
      | true =>
        have HX := Aside0.mk hx
        obtain ⟨fn, tmps, assign, body, hy, hR⟩ := hY _ (rd xs (k : Int)) wr hJs (by have := nz_len (xs.take k); rw [List.length_take] at this; omega)
        gi_wp2
        refine hR.mono ?_
        rintro e W3 (⟨rfl, hJ3, hk3⟩ | ⟨rfl, hJx3⟩)
        · gi_wp2
          go_roundw
          case rel => exact ⟨k + 1, by omega, by simp, by rw [nz_hit xs k hlt HX.out]; exact hJ3, hnx.trans hk3⟩
          case measure => simp [intOf]; omega
        · gi_wp2
          refine bodyPost_ret (results_none rfl _ _ _) rfl ?_
          exact ⟨⟨_, rfl⟩, .inr ⟨_, by rw [← nz_hit xs k hlt HX.out]; exact nz_prefix _ _, hJx3⟩⟩
      | false =>
        have HX := Aside0.mk hx
        gi_wp2
        refine ⟨fun _ h => (by cases h), ?_⟩
        gi_wp2
        go_roundw
        case rel => exact ⟨k + 1, by omega, by simp, by rw [nz_miss xs k hlt HX.out]; exact hJs, hnx⟩
        case measure => simp [intOf]; omega
    · obtain rfl : k = xs.length := by omega
      gi_wp2
      go_end0
      exact ⟨⟨_, rfl⟩, .inl ⟨_, rfl, by simpa using hJs⟩⟩
set_option maxHeartbeats 1000000 in
theorem named_in (F : Fence) (n : Nat) (h15 : F.fn 107) (hro : F.round = none) (A : Option Addr) (len cap : Nat) (w : World) :
    CallsIn F n Try.prog 107 #[.slice A len cap] w fun e w' => e = .returned (.func (.func 133) #[] #[.pointer (some ⟨w.heap.size, 0, none⟩)]) ∧ w' = w.alloc (.cells #[.slice A len cap] 27) := by
  refine callsIn_of_wp Try.func107 rfl h15 ?_ hro
  simp only [Try.ntmps107, List.size_toArray, List.length_cons, List.length_nil, Nat.reduceAdd, Nat.reduceSub, Array.replicate_succ, Array.replicate_zero, List.push_toArray, List.append_toArray, List.nil_append, List.cons_append]
  gi_wp2
  go_ret
  exact ⟨rfl, rfl⟩
theorem named_stops (F : Fence) (n : Nat) (h17 : F.fn 133) (hro : F.round = none) (hn : 1 ≤ n) (Bs n₀ : Nat) (A : Option Addr) (c : Nat) (xs : List Int) (hcap : xs.length ≤ c) (hbig : xs.length ≤ 1000000) (w : World) (hBs : Bs < w.heap.size) (hn₀ : n₀ ≤ w.heap.size)
    (hc : w.cell? ⟨Bs, 0, none⟩ = some (.slice A xs.length c)) (hC : ∀ W', Below n₀ w W' → Kd.C (Kd.int .i64) W' A xs.length xs) :
    SeqStopsK F n Try.prog 133 #[.pointer (some ⟨Bs, 0, none⟩)] (fun x : Int => #[Value.int .i64 x]) (Below n₀) (fun ys => ys = nz xs) (fun pre => pre <+: nz xs) xs.length w := fun l J Jx W hW _ _ hY h0 =>
  named1_in F n h17 hro hn l Bs n₀ A c xs hcap hbig J Jx hY W ((hW.cell (p := ⟨Bs, 0, none⟩) hBs).trans hc) (fun W' hb => hC W' ((hW.mono hn₀).trans hb)) h0
set_option maxRecDepth 100000 in
set_option maxHeartbeats 2000000 in
theorem appendSeq_in (F : Fence) (n : Nat) (h16 : F.fn 132) (h17 : F.fn 133) (hro : F.round = none) (hn : 2 ≤ n) (Bs : Nat) (A : Option Addr) (c : Nat) (xs : List Int) (hcap : xs.length ≤ c) (hbig : xs.length ≤ 1000000) (w : World) (hBs : Bs < w.heap.size)
    (hc : w.cell? ⟨Bs, 0, none⟩ = some (.slice A xs.length c)) (hC : ∀ W', Below w.heap.size w W' → Kd.C (Kd.int .i64) W' A xs.length xs) :
    CallsIn F n Try.prog 132 #[.slice none 0 0, .func (.func 133) #[] #[.pointer (some ⟨Bs, 0, none⟩)]] w fun e W' => ∃ v, e = .returned v ∧ W'.ownsRow w.heap.size 3 1 v (nz xs).length ((nz xs).map (Value.int .i64)) ∧ Below w.heap.size w W' := by
  have h1 : 1 ≤ n := by omega
  have HC := Aside0.mk hC
  clear hC
  obtain ⟨i0, hi, hz0, hz1, hz2⟩ := info_parts info3
  refine callsIn_of_wp_marks Try.func132 rfl h16 ?_ hro
  simp only [Try.ntmps132, List.size_toArray, List.length_cons, List.length_nil, Nat.reduceAdd, Nat.reduceSub, Array.replicate_succ, Array.replicate_zero, List.push_toArray, List.append_toArray, List.nil_append, List.cons_append]
  gi_wp2
  have bO := Boxed.new w 27 (.slice none 0 0)
  have hB0 : Below w.heap.size w (w.alloc (.cells #[.slice none 0 0] 27)) := (Below.refl _ w).alloc (Nat.le_refl _) _
  refine wpIn_rangeFunc_ownG hro h1 (gf := 133) (lb := #[.pointer (some ⟨Bs, 0, none⟩)]) rfl h17 (enters_of Try.func133 (by kernel_rfl) rfl)
    (named_stops F (n - 1) h17 hro (by omega) Bs w.heap.size A c xs hcap hbig _ (by simp; omega) (by simp) ((hB0.cell (p := ⟨Bs, 0, none⟩) hBs).trans hc) (fun W' hb => HC.out W' (hB0.trans hb))) belowK_t (belowK_b (by simp)) (Below.refl _ _) (fun _ => rfl)
    (fun pre W => (∃ v, Boxed W w.heap.size 27 v ∧ W.ownsRow w.heap.size 3 1 v pre.length (pre.map (Value.int .i64)) ∧ True) ∧ Below w.heap.size w W)
    (fun _ _ _ => False)
    (OwnFrom.and (Own.from (holdsRow_own w.heap.size w.heap.size 27 3 1 (fun pre : List Int => pre.length) (fun pre : List Int => pre.map (Value.int .i64)) (fun _ _ => True)) _) (ownFrom_below (Nat.le_refl _) (by simp)))
    (fun _ _ _ _ _ hs _ _ => hs)
    ⟨⟨_, bO, World.ownsRow_nil _ _ _ _, trivial⟩, hB0⟩
    (fun x => { tmps := #[.slice none 0 0, .func (.func 133) #[] #[.pointer (some ⟨Bs, 0, none⟩)], .pointer (some ⟨w.heap.size, 0, none⟩), undef, .slice none 0 0, .int .i64 x, .func (.func 133) #[] #[.pointer (some ⟨Bs, 0, none⟩)], .int .i64 x, undef, undef, undef, undef, undef], defers := [] }) ?assign ?body ?done ?stop
  case assign =>
    intro l x W K hK
    gi_wp2
    exact hK
  case body =>
    rintro l pre x W ⟨⟨v, hv, hrow, -⟩, hB⟩ hlt
    have hc2 := hv.cell
    gi_wp2_with (gi_at_builtin; refine wpListIn_append_own _ rfl _ _ 27 rfl w.heap.size 3 i0 (.int .i64 0) 1 8 Try.underlying27 hi hz0 hz1 hz2 rfl (by decide) _ _ _ rfl (hrow.alloc _) ⟨W.heap.size, 0, none⟩ 1 1 [.int .i64 x] rfl rfl (cell_one_new _ _ _) (by simp [Value.oneCell']) (by unfold maxLen; omega) (by omega) (by have := hB.size; simp; omega) ?_; intro v' w1 hown' hgrow _; obtain ⟨g', cap', rfl⟩ := ownsRow_succ hown'; obtain ⟨hv1, hv2, hr2, hk2, hb2⟩ := hv.appended (by decide) hrow hB.size (Nat.le_refl _) hown' hgrow; have hc1 := hv1.cell; have hf1 := hv1.frozen)
    exact ⟨hk2.from _, hb2, ⟨_, hv2, by simpa using hr2, trivial⟩, hB.trans hb2⟩
  case done =>
    rintro D ys W hD rfl ⟨⟨v, hv, hrow, -⟩, hB⟩ hK
    have hc2 := hv.cell
    gi_wp2
    refine ⟨by simp, .inl ⟨_, _, rfl, run_takeDeferred hK, ?_⟩⟩
    exact ⟨_, results_tmp rfl _ _ _, v, rfl, ownsRow_putObj hrow _ hK rfl, hB.trans (belowK_b (w := w) (Nat.le_refl _) W D _ _ (by simp at hD; omega) hK rfl rfl)⟩
  case stop =>
    rintro D c pre W _ _ h _
    exact h.elim
set_option maxHeartbeats 1000000 in
theorem collect_in (F : Fence) (n : Nat) (h14 : F.fn 106) (h16 : F.fn 132) (h17 : F.fn 133) (hro : F.round = none) (hn : 3 ≤ n) (Bs : Nat) (A : Option Addr) (c : Nat) (xs : List Int) (hcap : xs.length ≤ c) (hbig : xs.length ≤ 1000000) (w : World) (hBs : Bs < w.heap.size)
    (hc : w.cell? ⟨Bs, 0, none⟩ = some (.slice A xs.length c)) (hC : ∀ W', Below w.heap.size w W' → Kd.C (Kd.int .i64) W' A xs.length xs) :
    CallsIn F n Try.prog 106 #[.func (.func 133) #[] #[.pointer (some ⟨Bs, 0, none⟩)]] w fun e W' => ∃ v, e = .returned v ∧ W'.ownsRow w.heap.size 3 1 v (nz xs).length ((nz xs).map (Value.int .i64)) ∧ Below w.heap.size w W' := by
  have h1 : 1 ≤ n := by omega
  have HC := Aside0.mk hC
  clear hC
  refine callsIn_of_wp Try.func106 rfl h14 ?_ hro
  simp only [Try.ntmps106, List.size_toArray, List.length_cons, List.length_nil, Nat.reduceAdd, Nat.reduceSub, Array.replicate_succ, Array.replicate_zero, List.push_toArray, List.append_toArray, List.nil_append, List.cons_append]
  gi_wp2_with (gi_at_call 132; refine (appendSeq_in F (n - 1) h16 h17 hro (by omega) Bs A c xs hcap hbig _ hBs hc HC.out).mono ?_; rintro e w' ⟨v, rfl, ho, hb⟩)
  go_ret
  exact ⟨v, rfl, ho, hb⟩
theorem R_of_own {w0 : Nat} {W : World} {v : Value} {xs : List Int} (h : W.ownsRow w0 3 1 v xs.length (xs.map (Value.int .i64))) : Kd.R (Kd.int .i64) 3 W w0 (fun k => w0 ≤ k) v xs := by
  refine ⟨fun k hk => own_base h k hk, xs.map (Value.int .i64), h, by simp [Kd.int, Kd.scalar], fun j p hj => ?_⟩
  show List.take 1 (List.drop (j * 1) (xs.map (Value.int .i64))) = [Value.int .i64 p]
  have hlt : j < xs.length := (List.getElem?_eq_some_iff.1 hj).1
  have e : xs[j] = p := (List.getElem?_eq_some_iff.1 hj).2
  rw [Nat.mul_one, List.drop_eq_getElem_cons (by simpa using hlt)]
  simp [e]
theorem ownsRow_le {W : World} {b b' e sz : Nat} {v : Value} {n : Nat} {xs : List Value} (h : W.ownsRow b e sz v n xs) (hb : b' ≤ b) : W.ownsRow b' e sz v n xs := by
  obtain ⟨h1, h2 | ⟨g, cap, cur, e1, e2, e3⟩⟩ := h
  · exact ⟨h1, .inl h2⟩
  · exact ⟨h1, .inr ⟨g, cap, cur, e1, Nat.le_trans hb e2, e3⟩⟩
def cn (l : List Int) (h : Int) : Int := ((l.filter fun x => x == h).length : Int)
theorem cn_range (l : List Int) (h : Int) : 0 ≤ cn l h ∧ cn l h ≤ (l.length : Int) := by
  unfold cn
  have := List.length_filter_le (fun x => x == h) l
  omega
def vec_Names.f (l0 : List Int) : Option (List Int) := if l0.length ≤ 1000000 then some (nz l0) else none
set_option maxHeartbeats 2000000 in
theorem vec_Names.calls (A0 : Option Addr) (c0 : Nat) (l0 : List Int) (r : List Int) (w : World) (hr0 : Kd.C (Kd.int .i64) w A0 l0.length l0) (hc0 : l0.length ≤ c0) (h : vec_Names.f l0 = some r) :
    Calls Try.prog 76 #[.slice A0 l0.length c0] w fun e w' => ∃ v0_ : Value, e = .returned v0_ ∧ Kd.R (Kd.int .i64) 3 w' w.heap.size (fun _ => True) v0_ r ∧ Below w.heap.size w w' := by
  unfold vec_Names.f at h
  by_cases hl : l0.length ≤ 1000000
  · rw [if_pos hl] at h
    obtain rfl := Option.some.inj h
    have HR := Aside0.mk hr0
    clear hr0
    have h1 : (1 : Nat) ≤ 5 := by decide
    refine (callsIn_wide (n := 5)).1 ?_
    refine callsIn_of_wp Try.func76 rfl trivial ?_ rfl
    simp only [Try.ntmps76, List.size_toArray, List.length_cons, List.length_nil, Nat.reduceAdd, Nat.reduceSub, Array.replicate_succ, Array.replicate_zero, List.push_toArray, List.append_toArray, List.nil_append, List.cons_append]
    have hB0 : Below w.heap.size w (w.alloc (.cells #[.slice A0 l0.length c0] 27)) := (Below.refl _ w).alloc (Nat.le_refl _) _
    gi_wp2_with (first | (refine ⟨trivial, ?_⟩; gi_at_call 107; refine (named_in Fence.wide (5 - 1) trivial rfl _ _ _ _).mono ?_; rintro e w' ⟨rfl, rfl⟩) | (refine ⟨trivial, ?_⟩; gi_at_call 106; refine (collect_in Fence.wide (5 - 1) trivial trivial trivial rfl (by decide) w.heap.size A0 c0 l0 hc0 hl _ (by simp) (cell_new_l w _ _).1 (fun W' hb => Kd.C_below HR.out ((hB0.trans (hb.mono (by simp)))))).mono ?_; rintro e w' ⟨v, rfl, ho, hb⟩))
    go_ret
    refine ⟨v, rfl, ?_, hB0.trans (hb.mono (by simp))⟩
    obtain ⟨_, cs, e1, e2, e3⟩ := R_of_own ho
    exact ⟨fun k hk => trivial, cs, ownsRow_le e1 (by simp), e2, e3⟩
  · rw [if_neg hl] at h
    exact absurd h (by simp)
def rowOf (b : Nat) (W : World) : Option Nat := (W.cell? ⟨b, 0, none⟩).bind Value.ownBlock
def KpE (n₀ b4 : Nat) (own : Nat → Prop) (W W' : World) : Prop :=
  Below n₀ W W' ∧ (∀ k cs t, W.heap[k]? = some (.cells cs t (0, 0)) → ¬ own k → some k ≠ rowOf b4 W → W'.heap[k]? = some (.cells cs t (0, 0))) ∧ (rowOf b4 W' = rowOf b4 W ∨ ∃ k, rowOf b4 W' = some k ∧ W.heap.size ≤ k)
theorem KpE.trans {n₀ b4 : Nat} {own : Nat → Prop} {X Y Z : World} (h : KpE n₀ b4 own X Y) (k : KpE n₀ b4 own Y Z) : KpE n₀ b4 own X Z := by
  refine ⟨h.1.trans k.1, fun i cs t hi ho hr => k.2.1 i cs t (h.2.1 i cs t hi ho hr) ho ?_, ?_⟩
  · rcases h.2.2 with e | ⟨j, e, hj⟩
    · rw [e]; exact hr
    · rw [e]; intro e2; cases e2; have := blk_lt hi; omega
  · rcases k.2.2 with e | ⟨j, e, hj⟩
    · rw [e]; exact h.2.2
    · exact .inr ⟨j, e, Nat.le_trans h.1.size hj⟩
theorem KpE.below {n₀ b4 : Nat} {own : Nat → Prop} {X Y : World} (hn : n₀ ≤ X.heap.size) (hb4 : b4 < X.heap.size) (h : Below X.heap.size X Y) : KpE n₀ b4 own X Y :=
  ⟨h.mono hn, fun k cs t hk _ _ => blk_below hk h, .inl (by unfold rowOf; rw [World.cell?_of_block (h.block b4 hb4)])⟩
structure EI (n₀ b4 Bs g cap s0 s1 : Nat) (box : Array Value) (L : List Int) (W wr : World) : Prop where
  bl : Below n₀ W wr
  bs : wr.heap[Bs]? = some (.cells box 26 (0, 0))
  sz : s1 ≤ wr.heap.size
  lv : L ≠ [] → Row3 wr g cap L ∧ s0 ≤ g ∧ g < s1
  rw_ : ∀ r, rowOf b4 wr = some r → s1 ≤ r
theorem EI.kp {n₀ b4 Bs g cap s0 s1 : Nat} {box : Array Value} {L : List Int} {W X Y : World} {own : Nat → Prop} (h : EI n₀ b4 Bs g cap s0 s1 box L W X) (hk : KpE n₀ b4 own X Y) (hBs : Bs < s0) (hBo : ¬ own Bs) (ho : ∀ k, own k → k < s0) (h01 : s0 ≤ s1) : EI n₀ b4 Bs g cap s0 s1 box L W Y := by
  refine ⟨h.bl.trans hk.1, hk.2.1 _ _ _ h.bs hBo (fun e => by have := h.rw_ _ e.symm; omega), Nat.le_trans h.sz hk.1.size, fun hl => ?_, fun r hr => ?_⟩
  · obtain ⟨⟨cur, h1, h2⟩, h3, h4⟩ := h.lv hl
    exact ⟨⟨cur, hk.2.1 _ _ _ h1 (fun e => by have := ho _ e; omega) (fun e => by have := h.rw_ _ e.symm; omega), h2⟩, h3, h4⟩
  · rcases hk.2.2 with e | ⟨j, e, hj⟩
    · rw [e] at hr; exact h.rw_ r hr
    · rw [e] at hr; cases hr; exact Nat.le_trans h.sz hj
theorem EI.below {n₀ b4 Bs g cap s0 s1 : Nat} {box : Array Value} {L : List Int} {W X Y : World} (h : EI n₀ b4 Bs g cap s0 s1 box L W X) (hk : Below X.heap.size X Y) (hn : n₀ ≤ s1) (hb4 : b4 < s1) (hBs : Bs < s0) (h01 : s0 ≤ s1) : EI n₀ b4 Bs g cap s0 s1 box L W Y :=
  h.kp (own := fun _ => False) (KpE.below (Nat.le_trans hn h.sz) (Nat.lt_of_lt_of_le hb4 h.sz) hk) hBs (fun e => e) (fun _ e => e.elim) h01
end Go.Proofs.Ytkmjboeabmmecaa.MAll
