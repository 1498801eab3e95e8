/- Who names whom: what the functions come to. Conditions: those of each lemma. -/
import Derived.Test.YtkmjboeabmmecaaProg
import Derived.Below
import Derived.Deep.Draws
import Derived.Deep.AppendLies
import Derived.Maps.AppendAt
import Derived.OwnWalk
import Derived.Laws.BytesArg
import Derived.Laws.MakeOwn
import Derived.Laws.OwnMore
import Derived.Deep.OwnRows
import Derived.Tactics
import Derived.Lib.ConvBytes
import Derived.Laws.Slices
import Derived.WalkKit
import Derived.KernelRfl
import Derived.RowKit3
import Derived.Deep.LoopGhost
import Derived.Deep.QuietTactic
import Derived.BigQuiet
import Derived.WideLaws
import Derived.Deep.DeepCutAuto
import Derived.Deep.CutBlock
import Derived.Deep.RegionHeld3
import Derived.Laws.Rows
import Derived.Lib.AppendStr
import Derived.ArgAppend
import Derived.Laws.IdiomCopy
import Derived.OrdersHeld
import Derived.Laws.BitsLemmas
import Derived.RowKit
import Derived.OpenShut
import Derived.Test.YtkmjboeabmmecaaWWords
import Derived.Test.YtkmjboeabmmecaaWLast
import Derived.Test.YtkmjboeabmmecaaWTab
import Derived.Test.YtkmjboeabmmecaaWQPut
import Derived.Test.YtkmjboeabmmecaaWApart
import Derived.Test.YtkmjboeabmmecaaWArr
import Derived.Test.YtkmjboeabmmecaaWZeros
import Derived.Test.YtkmjboeabmmecaaWFoot
import Derived.Test.YtkmjboeabmmecaaWKept
import Derived.Test.YtkmjboeabmmecaaWShare
import Derived.Test.YtkmjboeabmmecaaWN
import Derived.Test.YtkmjboeabmmecaaWEqStruct
import Derived.Test.YtkmjboeabmmecaaWRepsOne
import Derived.Test.YtkmjboeabmmecaaWGuard
import Derived.Test.YtkmjboeabmmecaaWNEv
import Derived.Test.YtkmjboeabmmecaaWMore
import Derived.Test.YtkmjboeabmmecaaArr4
import Derived.Test.YtkmjboeabmmecaaSteps
import Derived.Test.YtkmjboeabmmecaaMAllx0
import Derived.RangeFuncBox
import Derived.RangeFuncNested
import Derived.RangeFuncBound
import Derived.RangeFuncCalls
import Derived.RangeFuncLeaves
import Derived.Shelf.Abstract
import Derived.Shelf.RegionOpen
import Derived.OwnWalkIn
import Derived.TacticsInMore
import Derived.LoopNIn
import Derived.LoopIn
import Derived.RegionTactic
import Derived.WalkSpells
import Derived.Lib.SliceRun
import Derived.Deep.Cut
import Derived.Test.YtkmjboeabmmecaaCopy
import Derived.Test.YtkmjboeabmmecaaMAllx6
import Derived.Test.YtkmjboeabmmecaaHndF
import Derived.WalkMore
import Derived.Maps.OwnIn
namespace Go.Proofs.Ytkmjboeabmmecaa.MAll
open Go.RowKit Go.Proofs.YtkmjboeabmmecaaW.PrintWords Go.Proofs.YtkmjboeabmmecaaW.PrintLast Go.Proofs.YtkmjboeabmmecaaW.PrintMore
attribute [local go_sem] max2_int min2_int max_two min_two max_three min_three max_four min_four   -- for this text's walks alone
set_option linter.unusedVariables false
set_option linter.unusedSimpArgs false
attribute [local go_sem] Oper.semAt_some
open Go.Shelf Go.Proofs.Ytkmjboeabmmecaa
theorem KpE.refl (n₀ b4 : Nat) (own : Nat → Prop) (W : World) : KpE n₀ b4 own W W := ⟨Below.refl _ _, fun _ _ _ h _ _ => h, .inl rfl⟩
theorem KpE.set {n₀ b4 : Nat} {own : Nat → Prop} (W : World) (g : Nat) (v : Value) (hg : n₀ ≤ g) (ho : own g) (hr : rowOf b4 (W.setCell ⟨g, 0, none⟩ v) = rowOf b4 W) : KpE n₀ b4 own W (W.setCell ⟨g, 0, none⟩ v) :=
  ⟨(Below.refl _ _).setCell (p := ⟨g, 0, none⟩) hg _, fun k cs t hk hk2 _ => (Below.heap_setCell W ⟨g, 0, none⟩ v k (fun e => by subst e; exact hk2 ho)).trans hk, .inl hr⟩
theorem rowOf_int {b : Nat} {W : World} {x : Int} (h : W.cell? ⟨b, 0, none⟩ = some (.int .i64 x)) : rowOf b W = none := by unfold rowOf; rw [h]; rfl
/-- How often h is named. -/
def inC (ds : List S82) (h : Int) : Int := cn ((edg ds).map Prod.snd) h
set_option maxRecDepth 100000 in
set_option maxHeartbeats 4000000 in
theorem rIn_in (n : Nat) (hn : 3 ≤ n) {w : World} {b : Nat} {P : Nat → Prop} {A : Option Addr} {c : Nat} {ds : List S82} {last ser h : Int} (hbig : ds.length ≤ 1000000) (hd : Apart82 ds) (hF : ∀ h, (getd ds h).1.f5.length ≤ 1000000) (hV : Kd.V k82 82 w b P (.slice A ds.length c) ds) :
    CallsIn Fence.wide n Try.prog 37 #[.agg #[.slice A ds.length c, .int .i64 last, .int .i64 ser], .int .i64 h] w fun e W' => e = .returned (.int .i64 (inC ds h)) ∧ Below w.heap.size w W' := by
  have h1 : 1 ≤ n := by omega
  have HV := Aside0.mk (show ∀ W', Below w.heap.size w W' → Kd.V k82 82 W' 0 (fun k => k < w.heap.size) (.slice A ds.length c) ds from fun W' hb => Kd.V_mono (Kd.V_below (Kd.V_bound hV) hb) (fun k hk => hk.2))
  clear hV
  refine callsIn_of_wp_marks Try.func37 rfl trivial ?_ rfl
  simp only [Try.ntmps37, List.size_toArray, List.length_cons, List.length_nil, Nat.reduceAdd, Nat.reduceSub, Array.replicate_succ, Array.replicate_zero, List.push_toArray, List.append_toArray, List.nil_append, List.cons_append]
  gi_wp2_with (refine ⟨trivial, ?_⟩; gi_at_call 77; refine (edges_in Fence.wide (n - 1) trivial rfl _ _ _ _ _ _).mono ?_; rintro e w' ⟨rfl, rfl⟩)
  obtain ⟨W0, hW0⟩ : ∃ W0, (((w.alloc (.cells #[.slice A ds.length c, .int .i64 last, .int .i64 ser] 26)).alloc (.cells #[.int .i64 h] 3)).alloc (.cells #[.int .i64 0] 3)).alloc (.cells #[.slice A ds.length c, .int .i64 last, .int .i64 ser] 26) = W0 := ⟨_, rfl⟩
  have hB0 : Below w.heap.size w W0 := by rw [← hW0]; exact ((((Below.refl _ w).alloc (Nat.le_refl _) _).alloc (by simp) _).alloc (by simp; omega) _).alloc (by simp; omega) _
  have hZ : W0.heap.size = w.heap.size + 1 + 1 + 1 + 1 := by rw [← hW0]; simp
  have q1 : W0.heap[w.heap.size + 1]? = some (.cells #[.int .i64 h] 3 (0, 0)) := by
    rw [← hW0]; have h := blk_new (w.alloc (.cells #[.slice A ds.length c, .int .i64 last, .int .i64 ser] 26)) (.cells #[.int .i64 h] 3); rw [World.size_alloc] at h; exact blk_alloc (blk_alloc h _) _
  have q2 : W0.heap[w.heap.size + 1 + 1]? = some (.cells #[.int .i64 0] 3 (0, 0)) := by
    rw [← hW0]; have h := blk_new ((w.alloc (.cells #[.slice A ds.length c, .int .i64 last, .int .i64 ser] 26)).alloc (.cells #[.int .i64 h] 3)) (.cells #[.int .i64 0] 3); rw [World.size_alloc, World.size_alloc] at h; exact blk_alloc h _
  have q3 : W0.heap[w.heap.size + 1 + 1 + 1]? = some (.cells #[.slice A ds.length c, .int .i64 last, .int .i64 ser] 26 (0, 0)) := by
    rw [← hW0]; have h := blk_new (((w.alloc (.cells #[.slice A ds.length c, .int .i64 last, .int .i64 ser] 26)).alloc (.cells #[.int .i64 h] 3)).alloc (.cells #[.int .i64 0] 3)) (.cells #[.slice A ds.length c, .int .i64 last, .int .i64 ser] 26); rw [World.size_alloc, World.size_alloc, World.size_alloc] at h; exact h
  rw [hW0]
  clear hW0
  have c1 : W0.cell? ⟨w.heap.size + 1, 0, none⟩ = some (.int .i64 h) := (blk_cell q1 0).trans rfl
  have c2 : W0.cell? ⟨w.heap.size + 1 + 1, 0, none⟩ = some (.int .i64 0) := (blk_cell q2 0).trans rfl
  have f2 := blk_frozen q2 0
  refine wpIn_rangeFunc_ownG rfl h1 (gf := 108) (lb := #[.pointer (some ⟨w.heap.size + 1 + 1 + 1, 0, none⟩)]) rfl trivial (enters_of Try.func108 (by kernel_rfl) rfl)
    (edges_stops (n - 1) (by omega) (w.heap.size + 1 + 1 + 1) w.heap.size (w.heap.size + 1 + 1) (fun k => k = w.heap.size + 1 + 1) A c ds last ser hbig hd hF W0 (by omega) (by omega) (by omega) (by omega) (rowOf_int c2) (fun k hk => by omega) q3 (fun W' hb => HV.out W' (hB0.trans hb)))
    KpE.trans (kpE_b (by omega) (by omega)) (Below.refl _ _) (fun _ => rfl)
    (fun pre W => (W.cell? ⟨w.heap.size + 1, 0, none⟩ = some (.int .i64 h) ∧ W.cell? ⟨w.heap.size + 1 + 1, 0, none⟩ = some (.int .i64 (cn (pre.map Prod.snd) h)) ∧ W.frozen? ⟨w.heap.size + 1 + 1, 0, none⟩ = false) ∧ Below w.heap.size w W)
    (fun _ _ _ => False)
    (OwnFrom.and (Own.from (fun s A B row hs hg hr => ⟨cell_kept hs.1 hg hr, cell_kept hs.2.1 hg hr, (frozen_kept hs.2.1 hg hr).trans hs.2.2⟩) _) (ownFrom_below (Nat.le_refl _) (by omega)))
    (fun _ _ _ _ _ hs _ _ => hs)
    ⟨⟨c1, c2, f2⟩, hB0⟩
    (fun x => { tmps := #[.agg #[.slice A ds.length c, .int .i64 last, .int .i64 ser], .int .i64 h, .pointer (some ⟨w.heap.size, 0, none⟩), .pointer (some ⟨w.heap.size + 1, 0, none⟩), .pointer (some ⟨w.heap.size + 1 + 1, 0, none⟩), undef, .int .i64 x.2, .agg #[.slice A ds.length c, .int .i64 last, .int .i64 ser], .func (.func 108) #[] #[.pointer (some ⟨w.heap.size + 1 + 1 + 1, 0, none⟩)], .int .i64 x.1, .int .i64 x.2, undef, undef, undef, undef, undef, undef], defers := [] }) ?assign ?body ?done ?stop
  case assign =>
    intro l x W K hK
    gi_wp2
    exact hK
  case body =>
    rintro l pre ⟨x1, x⟩ W ⟨⟨hch, hcn, hfn⟩, hB⟩ hlt
    have hr := cn_range (pre.map Prod.snd) h
    rw [List.length_map] at hr
    have hs := cn_snoc (pre.map Prod.snd) x h
    rw [show List.map Prod.snd pre ++ [x] = List.map Prod.snd (pre ++ [(x1, x)]) by simp] at hs
    by_cases hx : x = h
    · subst hx
      rw [if_pos rfl] at hs
      gi_wp2
      have ew : Go.RowKit.wrap64 (cn (pre.map Prod.snd) x + 1) = cn (pre.map Prod.snd) x + 1 := Go.IntWalk.wrap64_in _ (by omega)
      have hc9 : (W.setCell ⟨w.heap.size + 1 + 1, 0, none⟩ (.int .i64 (cn (pre.map Prod.snd) x + 1))).cell? ⟨w.heap.size + 1 + 1, 0, none⟩ = some (.int .i64 (cn (pre.map Prod.snd) x + 1)) := World.cell?_setCell_same' _ _ _ (by rw [hcn]; rfl)
      exact ⟨(KeepsOthers.setCell _ _ _).from _, KpE.set W (w.heap.size + 1 + 1) _ (by omega) rfl (by rw [rowOf_int hc9, rowOf_int hcn]), ⟨(World.cell?_setCell_other _ _ _ _ (by simp)).trans hch, by rw [hs]; exact hc9, by rw [World.frozen?_setCell]; exact hfn⟩, hB.setCell (p := ⟨w.heap.size + 1 + 1, 0, none⟩) (by dsimp only; omega) _⟩
    · rw [if_neg hx] at hs
      gi_wp2
      exact ⟨(KeepsOthers.refl _).from _, KpE.refl _ _ _ _, ⟨hch, by rw [hs]; exact hcn, hfn⟩, hB⟩
  case done =>
    rintro D ys W hD rfl ⟨⟨hch, hcn, hfn⟩, hB⟩ hK
    gi_wp2
    have hK' := (KeepsOthers.setCell W ⟨w.heap.size + 1 + 1, 0, none⟩ (.int .i64 (cn ((edg ds).map Prod.snd) h))).same D _ hK rfl
    refine ⟨by simp, .inl ⟨_, _, rfl, run_takeDeferred hK', ?_⟩⟩
    have hc5 := cell_kept (World.cell?_setCell_same' W ⟨w.heap.size + 1 + 1, 0, none⟩ (.int .i64 (cn ((edg ds).map Prod.snd) h)) (by rw [hcn]; rfl)) (grownBy_putObj' _ D (.deferred none)) (fun r e => by cases e; exact ⟨_, hK', rfl⟩)
    refine ⟨.int .i64 (cn ((edg ds).map Prod.snd) h), ?_, rfl, (hB.setCell (p := ⟨w.heap.size + 1 + 1, 0, none⟩) (by dsimp only; omega) _).trans (belowK_b (w := w) (Nat.le_refl _) _ D _ _ (by omega) hK' rfl rfl)⟩
    simp [results, Try.f37, go_sem, hc5]
  case stop =>
    rintro D c pre W _ _ h _
    exact h.elim
theorem rIn {w : World} {b : Nat} {P : Nat → Prop} {A : Option Addr} {c : Nat} {ds : List S82} {last ser h : Int} (hbig : ds.length ≤ 1000000) (hd : Apart82 ds) (hF : ∀ h, (getd ds h).1.f5.length ≤ 1000000) (hV : Kd.V k82 82 w b P (.slice A ds.length c) ds) :
    Calls Try.prog 37 #[.agg #[.slice A ds.length c, .int .i64 last, .int .i64 ser], .int .i64 h] w fun e W' => e = .returned (.int .i64 (inC ds h)) ∧ Below w.heap.size w W' := (callsIn_wide (n := 9)).1 (rIn_in 9 (by decide) hbig hd hF hV)
theorem KpE.app {n₀ b4 t : Nat} {own : Nat → Prop} {W w1 : World} {v v' : Value} {tmp : Obj} (hv : Boxed W b4 t v) (ho : own b4) (hk : Below n₀ W (w1.setCell ⟨b4, 0, none⟩ v')) (hg : (W.alloc tmp).grownBy w1 v.ownBlock) (hat : v'.ownBlock = v.ownBlock ∨ v'.ownBlock = some (W.alloc tmp).heap.size) (hs : Boxed (w1.setCell ⟨b4, 0, none⟩ v') b4 t v') :
    KpE n₀ b4 own W (w1.setCell ⟨b4, 0, none⟩ v') := by
  have e1 : rowOf b4 W = v.ownBlock := by unfold rowOf; rw [hv.cell]; rfl
  have e2 : rowOf b4 (w1.setCell ⟨b4, 0, none⟩ v') = v'.ownBlock := by unfold rowOf; rw [hs.cell]; rfl
  refine ⟨hk, fun k cs t2 h1 h2 h3 => ?_, ?_⟩
  · have hl := blk_lt h1
    exact (Below.heap_setCell w1 ⟨b4, 0, none⟩ v' k (fun e => by subst e; exact h2 ho)).trans ((hg.block k (by simp; omega) (by rw [← e1]; exact h3)).trans ((Below.heap_alloc W tmp k hl).trans h1))
  · rw [e1, e2]
    rcases hat with e | e
    · exact .inl e
    · exact .inr ⟨_, e, by simp⟩
theorem below_gb {W W' : World} (h : Below W.heap.size W W') : W.grownBy W' none := ⟨h.os, h.tape, h.output, h.size, fun k hk _ => h.block k hk⟩
theorem below_kf {B : Nat} {W W' : World} (h : Below W.heap.size W W') : KeepsFrom B W W' := ⟨h.size, fun k o _ hk _ => blk_below hk h⟩
theorem own_bel {w w1 : World} {base : Nat} {e : TypeId} {size n : Nat} {v : Value} {xs : List Value} (h : w.ownsRow base e size v n xs) (hb : Below w.heap.size w w1) : w1.ownsRow base e size v n xs :=
  own_move h (fun k hk => hb.block k (by obtain ⟨_, hc⟩ := own_typed h k hk; exact blk_lt hc))
theorem blk_own {β : Type} (g t : Nat) (cs : Array Value) : Own (fun (_ : β) W => W.heap[g]? = some (.cells cs t (0, 0))) := fun s W W' row hs hg hr => (hg.block g (blk_lt hs) (fun e => by obtain ⟨o, h1, h2⟩ := hr g e.symm; rw [hs] at h1; cases h1; cases h2)).trans hs
theorem own_ne {W : World} {base g t t' size n : Nat} {v : Value} {xs : List Value} {cs : Array Value} (hr : W.ownsRow base t' size v n xs) (hb : W.heap[g]? = some (.cells cs t (0, 0))) (hne : t ≠ t') : some g ≠ v.ownBlock := fun e => by
  obtain ⟨c, hc⟩ := own_typed hr g e.symm
  rw [hb] at hc; cases hc; exact hne rfl
theorem own_sl {W : World} {base t size n : Nat} {v : Value} {xs : List Value} (hr : W.ownsRow base t size v n xs) : ∃ A m c, v = .slice A m c := by
  rcases hr.2 with ⟨rfl, _⟩ | ⟨g, cap, cur, rfl, _⟩
  · exact ⟨_, _, _, rfl⟩
  · exact ⟨_, _, _, rfl⟩
/-- What names nobody. -/
def dgl (ds : List S82) (pre : List (Int × Int)) : List Int := (pre.map Prod.snd).filter (fun x => (getd ds x).2 != 0)
def dngC (ds : List S82) : List Int := dgl ds (edg ds)
theorem dgl_no {ds : List S82} {pre : List (Int × Int)} {x1 x : Int} (h : (getd ds x).2 = 0) : dgl ds (pre ++ [(x1, x)]) = dgl ds pre := by unfold dgl; simp [h]
theorem dgl_yes {ds : List S82} {pre : List (Int × Int)} {x1 x : Int} (h : ¬ (getd ds x).2 = 0) : dgl ds (pre ++ [(x1, x)]) = dgl ds pre ++ [x] := by unfold dgl; simp [h]
theorem dgl_len (ds : List S82) (pre : List (Int × Int)) : (dgl ds pre).length ≤ pre.length := by unfold dgl; exact Nat.le_trans (List.length_filter_le _ _) (by simp)
set_option maxRecDepth 100000 in
set_option maxHeartbeats 4000000 in
theorem rDng_in (n : Nat) (hn : 3 ≤ n) {w : World} {b : Nat} {P : Nat → Prop} {A : Option Addr} {c : Nat} {ds : List S82} {last ser : Int} (hbig : ds.length ≤ 1000000) (hd : Apart82 ds) (hF : ∀ h, (getd ds h).1.f5.length ≤ 1000000) (hV : Kd.V k82 82 w b P (.slice A ds.length c) ds) :
    CallsIn Fence.wide n Try.prog 38 #[.agg #[.slice A ds.length c, .int .i64 last, .int .i64 ser]] w fun e W' => ∃ v, e = .returned v ∧ Kd.R (Kd.int .i64) 3 W' w.heap.size (fun _ => True) v (dngC ds) ∧ Below w.heap.size w W' := by
  have h1 : 1 ≤ n := by omega
  have HV := Aside0.mk (show ∀ W', Below w.heap.size w W' → Kd.V k82 82 W' 0 (fun k => k < w.heap.size) (.slice A ds.length c) ds from fun W' hb => Kd.V_mono (Kd.V_below (Kd.V_bound hV) hb) (fun k hk => hk.2))
  clear hV
  obtain ⟨i0, hi, hz0, hz1, hz2⟩ := info_parts info3
  refine callsIn_of_wp_marks Try.func38 rfl trivial ?_ rfl
  simp only [Try.ntmps38, List.size_toArray, List.length_cons, List.length_nil, Nat.reduceAdd, Nat.reduceSub, Array.replicate_succ, Array.replicate_zero, List.push_toArray, List.append_toArray, List.nil_append, List.cons_append]
  gi_wp2_with (refine ⟨trivial, ?_⟩; gi_at_call 77; refine (edges_in Fence.wide (n - 1) trivial rfl _ _ _ _ _ _).mono ?_; rintro e w' ⟨rfl, rfl⟩)
  obtain ⟨W0, hW0⟩ : ∃ W0, ((w.alloc (.cells #[.slice A ds.length c, .int .i64 last, .int .i64 ser] 26)).alloc (.cells #[.slice none 0 0] 27)).alloc (.cells #[.slice A ds.length c, .int .i64 last, .int .i64 ser] 26) = W0 := ⟨_, rfl⟩
  have hB0 : Below w.heap.size w W0 := by rw [← hW0]; exact (((Below.refl _ w).alloc (Nat.le_refl _) _).alloc (by simp) _).alloc (by simp; omega) _
  have hZ : W0.heap.size = w.heap.size + 1 + 1 + 1 := by rw [← hW0]; simp
  have q0 : W0.heap[w.heap.size]? = some (.cells #[.slice A ds.length c, .int .i64 last, .int .i64 ser] 26 (0, 0)) := by rw [← hW0]; exact blk_alloc (blk_alloc (blk_new w _) _) _
  have q2 : W0.heap[w.heap.size + 1]? = some (.cells #[.slice none 0 0] 27 (0, 0)) := by
    rw [← hW0]; have h := blk_new (w.alloc (.cells #[.slice A ds.length c, .int .i64 last, .int .i64 ser] 26)) (.cells #[.slice none 0 0] 27); rw [World.size_alloc] at h; exact blk_alloc h _
  have q3 : W0.heap[w.heap.size + 1 + 1]? = some (.cells #[.slice A ds.length c, .int .i64 last, .int .i64 ser] 26 (0, 0)) := by
    rw [← hW0]; have h := blk_new ((w.alloc (.cells #[.slice A ds.length c, .int .i64 last, .int .i64 ser] 26)).alloc (.cells #[.slice none 0 0] 27)) (.cells #[.slice A ds.length c, .int .i64 last, .int .i64 ser] 26); rw [World.size_alloc, World.size_alloc] at h; exact h
  rw [hW0]
  clear hW0
  refine wpIn_rangeFunc_ownG rfl h1 (gf := 108) (lb := #[.pointer (some ⟨w.heap.size + 1 + 1, 0, none⟩)]) rfl trivial (enters_of Try.func108 (by kernel_rfl) rfl)
    (edges_stops (n - 1) (by omega) (w.heap.size + 1 + 1) w.heap.size (w.heap.size + 1) (fun k => k = w.heap.size + 1) A c ds last ser hbig hd hF W0 (by omega) (by omega) (by omega) (by omega) (by unfold rowOf; rw [(blk_cell q2 0).trans rfl]; rfl) (fun k hk => by omega) q3 (fun W' hb => HV.out W' (hB0.trans hb)))
    KpE.trans (kpE_b (by omega) (by omega)) (Below.refl _ _) (fun _ => rfl)
    (fun pre W => ((∃ v, Boxed W (w.heap.size + 1) 27 v ∧ W.ownsRow w.heap.size 3 1 v (dgl ds pre).length ((dgl ds pre).map (Value.int .i64)) ∧ True) ∧ W.heap[w.heap.size]? = some (.cells #[.slice A ds.length c, .int .i64 last, .int .i64 ser] 26 (0, 0))) ∧ Below w.heap.size w W)
    (fun _ _ _ => False)
    (OwnFrom.and (OwnFrom.and (Own.from (holdsRow_own w.heap.size (w.heap.size + 1) 27 3 1 (fun pre : List (Int × Int) => (dgl ds pre).length) (fun pre : List (Int × Int) => (dgl ds pre).map (Value.int .i64)) (fun _ _ => True)) _) (Own.from (blk_own _ _ _) _)) (ownFrom_below (Nat.le_refl _) (by omega)))
    (fun _ _ _ _ _ hs _ _ => hs)
    ⟨⟨⟨_, q2, World.ownsRow_nil _ _ _ _, trivial⟩, q0⟩, hB0⟩
    (fun x => { tmps := #[.agg #[.slice A ds.length c, .int .i64 last, .int .i64 ser], .pointer (some ⟨w.heap.size, 0, none⟩), .pointer (some ⟨w.heap.size + 1, 0, none⟩), undef, .int .i64 x.2, undef, undef, .agg #[.slice A ds.length c, .int .i64 last, .int .i64 ser], .func (.func 108) #[] #[.pointer (some ⟨w.heap.size + 1 + 1, 0, none⟩)], .int .i64 x.1, .int .i64 x.2, undef, undef, undef, undef, undef, undef, undef, undef, undef, undef, undef, undef, undef], defers := [] }) ?assign ?body ?done ?stop
  case assign =>
    intro l x W K hK
    gi_wp2
    exact hK
  case body =>
    rintro l pre ⟨x1, x⟩ W ⟨⟨⟨v, hv, hrow, -⟩, hbx⟩, hB⟩ hlt
    obtain ⟨A9, n9, c9, rfl⟩ := own_sl hrow
    have k0 := (blk_cell hbx 0).trans rfl
    have k1 := (blk_cell hbx 1).trans rfl
    have k2 := (blk_cell hbx 2).trans rfl
    have hc4 := hv.cell
    have HG := Aside0.mk (sGet (last := last) (ser := ser) (h := x) hbig (HV.out W hB))
    have hno := @dgl_no ds pre x1 x
    have hyes := @dgl_yes ds pre x1 x
    have hdl := dgl_len ds pre
    obtain ⟨z, hz⟩ : ∃ z, z = getd ds x := ⟨_, rfl⟩
    rw [← hz] at HG hno hyes
    obtain ⟨d, r2⟩ := z
    dsimp only at HG hno hyes
    clear hz
    by_cases e : r2 = 0
    · have hs := hno e
      subst e
      gi_wp2_with (refine ⟨trivial, fun h => absurd h (by decide), ?_⟩; refine ((callsIn_wide.2 HG.out).inRound l).mono ?_; rintro e w3 ⟨vo, rfl, hrel, hb⟩)
      have hbn : Below W.heap.size W (w3.alloc (.cells #[.int .i64 vo.ser, .int .i64 vo.str, .int .i64 vo.wk, .int .i64 vo.pr, .bool vo.sd, .slice vo.fa vo.fn vo.fc] 29)) := hb.alloc hb.size _
      exact ⟨below_kf hbn, KpE.below hB.size (hv.lt) hbn, ⟨⟨_, hv.kept (below_gb hbn) (by simp), by rw [hs]; exact own_bel hrow hbn, trivial⟩, blk_below hbx hbn⟩, hB.trans (hbn.mono hB.size)⟩
    · have hs := hyes e
      have e1 : decide (r2 = 0) = false := decide_eq_false e
      have e2 : (r2 == 0) = false := by simpa using e
      have e3 : (r2 != 0) = true := by simpa using e
      gi_wp2_with (first | (refine ⟨trivial, fun h => absurd h (by decide), ?_⟩; refine ((callsIn_wide.2 HG.out).inRound l).mono ?_; rintro e w3 ⟨vo, rfl, hrel, hb⟩; have hv3 := hv.kept (below_gb hb) (by simp); have hr3 := own_bel hrow hb; have hc6 := (hv3.alloc (.cells #[.int .i64 vo.ser, .int .i64 vo.str, .int .i64 vo.wk, .int .i64 vo.pr, .bool vo.sd, .slice vo.fa vo.fn vo.fc] 29)).cell; have hb3 := hb.size) | (gi_at_builtin; refine wpListIn_append_own_at _ rfl _ _ 27 rfl w.heap.size 3 i0 (.int .i64 0) 1 8 Try.underlying27 hi hz0 hz1 hz2 rfl (by decide) _ _ _ rfl ((hr3.alloc _).alloc _) ⟨w3.heap.size + 1, 0, none⟩ 1 1 [.int .i64 x] rfl rfl (by have h := cell_one_new (w3.alloc (.cells #[.int .i64 vo.ser, .int .i64 vo.str, .int .i64 vo.wk, .int .i64 vo.pr, .bool vo.sd, .slice vo.fa vo.fn vo.fc] 29)) (.int .i64 x) 3; rw [World.size_alloc] at h; exact h) (by simp [Value.oneCell']) (by unfold maxLen; omega) (by omega) (by have := hB.size; simp; omega) ?_; intro v' w1 hown' hgrow _ hat; obtain ⟨g', cap', rfl⟩ := ownsRow_succ hown'; have hva : Boxed (w3.alloc (.cells #[.int .i64 vo.ser, .int .i64 vo.str, .int .i64 vo.wk, .int .i64 vo.pr, .bool vo.sd, .slice vo.fa vo.fn vo.fc] 29)) (w.heap.size + 1) 27 (.slice A9 n9 c9) := hv3.alloc _; obtain ⟨hv1, hv2, hr2, hk2, hb2⟩ := hva.appended (by decide) (hr3.alloc _) (by have := hB.size; simp; omega) (by omega) hown' hgrow; have hc1 := hv1.cell; have hf1 := hv1.frozen))
      have hbn : Below W.heap.size W (w3.alloc (.cells #[.int .i64 vo.ser, .int .i64 vo.str, .int .i64 vo.wk, .int .i64 vo.pr, .bool vo.sd, .slice vo.fa vo.fn vo.fc] 29)) := hb.alloc hb.size _
      have hva : Boxed (w3.alloc (.cells #[.int .i64 vo.ser, .int .i64 vo.str, .int .i64 vo.wk, .int .i64 vo.pr, .bool vo.sd, .slice vo.fa vo.fn vo.fc] 29)) (w.heap.size + 1) 27 (.slice A9 n9 c9) := hv3.alloc _
      have hra := hr3.alloc (.cells #[.int .i64 vo.ser, .int .i64 vo.str, .int .i64 vo.wk, .int .i64 vo.pr, .bool vo.sd, .slice vo.fa vo.fn vo.fc] 29)
      have hk3 : KpE w.heap.size (w.heap.size + 1) (fun k => k = w.heap.size + 1) _ _ := KpE.app hva rfl hb2 hgrow hat hv2
      have hrw : rowOf (w.heap.size + 1) (w3.alloc (.cells #[.int .i64 vo.ser, .int .i64 vo.str, .int .i64 vo.wk, .int .i64 vo.pr, .bool vo.sd, .slice vo.fa vo.fn vo.fc] 29)) = (Value.slice A9 n9 c9).ownBlock := by unfold rowOf; rw [hva.cell]; rfl
      exact ⟨(below_kf hbn).trans (hk2.from _), KpE.trans (KpE.below hB.size (hv.lt) hbn) hk3, ⟨⟨_, hv2, by rw [hs]; simpa using hr2, trivial⟩, hk3.2.1 _ _ _ (blk_below hbx hbn) (by omega) (by rw [hrw]; exact own_ne hra (blk_below hbx hbn) (by decide))⟩, (hB.trans (hbn.mono hB.size)).trans hb2⟩
  case done =>
    rintro D ys W hD rfl ⟨⟨⟨v, hv, hrow, -⟩, hbx⟩, hB⟩ hK
    obtain ⟨A9, n9, c9, rfl⟩ := own_sl hrow
    have hc2 := hv.cell
    have hf2 := hv.frozen
    gi_wp2
    have hv2 := hv.set (.slice A9 n9 c9)
    have hK' := (KeepsOthers.setCell W ⟨w.heap.size + 1, 0, none⟩ (.slice A9 n9 c9)).same D _ hK rfl
    refine ⟨by simp, .inl ⟨_, _, rfl, run_takeDeferred hK', ?_⟩⟩
    have hc5 := cell_kept hv2.cell (grownBy_putObj' _ D (.deferred none)) (fun r e => by cases e; exact ⟨_, hK', rfl⟩)
    have hr5 := hrow.kept (grownBy_setCell' W (w.heap.size + 1) (.slice A9 n9 c9)) (.inr (hv.not_row (by decide) hrow).symm)
    refine ⟨.slice A9 n9 c9, ?_, .slice A9 n9 c9, rfl, ?_, (hB.setCell (p := ⟨w.heap.size + 1, 0, none⟩) (by dsimp only; omega) _).trans (belowK_b (w := w) (Nat.le_refl _) _ D _ _ (by omega) hK' rfl rfl)⟩
    · simp [results, Try.f38, go_sem, hc5]
    · exact Kd.R_mono (R_of_own (ownsRow_putObj hr5 _ hK' rfl)) (fun _ _ => trivial)
  case stop =>
    rintro D c pre W _ _ h _
    exact h.elim
theorem rDng {w : World} {b : Nat} {P : Nat → Prop} {A : Option Addr} {c : Nat} {ds : List S82} {last ser : Int} (hbig : ds.length ≤ 1000000) (hd : Apart82 ds) (hF : ∀ h, (getd ds h).1.f5.length ≤ 1000000) (hV : Kd.V k82 82 w b P (.slice A ds.length c) ds) :
    Calls Try.prog 38 #[.agg #[.slice A ds.length c, .int .i64 last, .int .i64 ser]] w fun e W' => ∃ v, e = .returned v ∧ Kd.R (Kd.int .i64) 3 W' w.heap.size (fun _ => True) v (dngC ds) ∧ Below w.heap.size w W' := (callsIn_wide (n := 9)).1 (rDng_in 9 (by decide) hbig hd hF hV)
theorem blk_own' {β : Type} (f : β → Array Value) (g t : Nat) : Own (fun s W => W.heap[g]? = some (.cells (f s) t (0, 0))) := fun s W W' row hs hg hr => (hg.block g (blk_lt hs) (fun e => by obtain ⟨o, h1, h2⟩ := hr g e.symm; rw [hs] at h1; cases h1; cases h2)).trans hs
/-- By whom h is named, so far: the list, the last one. -/
def byF (h : Int) (s : List Int × Int) (p : Int × Int) : List Int × Int := if p.2 = h ∧ p.1 ≠ s.2 then (s.1 ++ [p.1], p.1) else s
def byL (h : Int) (pre : List (Int × Int)) : List Int × Int := pre.foldl (byF h) ([], 0)
def byC (ds : List S82) (h : Int) : List Int := (byL h (edg ds)).1
theorem byL_no {h : Int} {pre : List (Int × Int)} {x1 x : Int} (e : ¬ (x = h ∧ x1 ≠ (byL h pre).2)) : byL h (pre ++ [(x1, x)]) = byL h pre := by
  unfold byL; rw [List.foldl_append]; exact if_neg e
theorem byL_yes {h : Int} {pre : List (Int × Int)} {x1 x : Int} (e : x = h ∧ x1 ≠ (byL h pre).2) : byL h (pre ++ [(x1, x)]) = ((byL h pre).1 ++ [x1], x1) := by
  unfold byL; rw [List.foldl_append]; exact if_pos e
theorem byF_len (h : Int) : ∀ (l : List (Int × Int)) (s : List Int × Int), (l.foldl (byF h) s).1.length ≤ s.1.length + l.length
  | [], s => by simp
  | p :: l, s => by
    have h1 := byF_len h l (byF h s p)
    have h2 : (byF h s p).1.length ≤ s.1.length + 1 := by
      unfold byF
      by_cases e : p.2 = h ∧ p.1 ≠ s.2
      · rw [if_pos e]; simp
      · rw [if_neg e]; omega
    simp only [List.foldl_cons, List.length_cons]
    omega
theorem byL_len (h : Int) (pre : List (Int × Int)) : (byL h pre).1.length ≤ pre.length := by
  have := byF_len h pre ([], 0)
  simpa [byL] using this
set_option maxRecDepth 100000 in
set_option maxHeartbeats 4000000 in
theorem rBy_in (n : Nat) (hn : 3 ≤ n) {w : World} {b : Nat} {P : Nat → Prop} {A : Option Addr} {c : Nat} {ds : List S82} {last ser h : Int} (hbig : ds.length ≤ 1000000) (hd : Apart82 ds) (hF : ∀ h, (getd ds h).1.f5.length ≤ 1000000) (hV : Kd.V k82 82 w b P (.slice A ds.length c) ds) :
    CallsIn Fence.wide n Try.prog 39 #[.agg #[.slice A ds.length c, .int .i64 last, .int .i64 ser], .int .i64 h] w fun e W' => ∃ v, e = .returned v ∧ Kd.R (Kd.int .i64) 3 W' w.heap.size (fun _ => True) v (byC ds h) ∧ Below w.heap.size w W' := by
  have h1 : 1 ≤ n := by omega
  have HV := Aside0.mk (show ∀ W', Below w.heap.size w W' → Kd.V k82 82 W' 0 (fun k => k < w.heap.size) (.slice A ds.length c) ds from fun W' hb => Kd.V_mono (Kd.V_below (Kd.V_bound hV) hb) (fun k hk => hk.2))
  clear hV
  obtain ⟨i0, hi, hz0, hz1, hz2⟩ := info_parts info3
  refine callsIn_of_wp_marks Try.func39 rfl trivial ?_ rfl
  simp only [Try.ntmps39, List.size_toArray, List.length_cons, List.length_nil, Nat.reduceAdd, Nat.reduceSub, Array.replicate_succ, Array.replicate_zero, List.push_toArray, List.append_toArray, List.nil_append, List.cons_append]
  gi_wp2_with (refine ⟨trivial, ?_⟩; gi_at_call 77; refine (edges_in Fence.wide (n - 1) trivial rfl _ _ _ _ _ _).mono ?_; rintro e w' ⟨rfl, rfl⟩)
  obtain ⟨W0, hW0⟩ : ∃ W0, ((((w.alloc (.cells #[.slice A ds.length c, .int .i64 last, .int .i64 ser] 26)).alloc (.cells #[.int .i64 h] 3)).alloc (.cells #[.slice none 0 0] 27)).alloc (.cells #[.int .i64 0] 3)).alloc (.cells #[.slice A ds.length c, .int .i64 last, .int .i64 ser] 26) = W0 := ⟨_, rfl⟩
  have hB0 : Below w.heap.size w W0 := by rw [← hW0]; exact (((((Below.refl _ w).alloc (Nat.le_refl _) _).alloc (by simp) _).alloc (by simp; omega) _).alloc (by simp; omega) _).alloc (by simp; omega) _
  have hZa : W0.heap.size ≤ w.heap.size + 1 + 1 + 1 + 1 + 1 := by rw [← hW0]; simp
  have hZb : w.heap.size + 1 + 1 + 1 + 1 + 1 ≤ W0.heap.size := by rw [← hW0]; simp
  have q1 : W0.heap[w.heap.size + 1]? = some (.cells #[.int .i64 h] 3 (0, 0)) := by
    rw [← hW0]; have h := blk_new (w.alloc (.cells #[.slice A ds.length c, .int .i64 last, .int .i64 ser] 26)) (.cells #[.int .i64 h] 3); rw [World.size_alloc] at h; exact blk_alloc (blk_alloc (blk_alloc h _) _) _
  have q2 : W0.heap[w.heap.size + 1 + 1]? = some (.cells #[.slice none 0 0] 27 (0, 0)) := by
    rw [← hW0]; have h := blk_new ((w.alloc (.cells #[.slice A ds.length c, .int .i64 last, .int .i64 ser] 26)).alloc (.cells #[.int .i64 h] 3)) (.cells #[.slice none 0 0] 27); rw [World.size_alloc, World.size_alloc] at h; exact blk_alloc (blk_alloc h _) _
  have q4 : W0.heap[w.heap.size + 1 + 1 + 1]? = some (.cells #[.int .i64 0] 3 (0, 0)) := by
    rw [← hW0]; have h := blk_new (((w.alloc (.cells #[.slice A ds.length c, .int .i64 last, .int .i64 ser] 26)).alloc (.cells #[.int .i64 h] 3)).alloc (.cells #[.slice none 0 0] 27)) (.cells #[.int .i64 0] 3); rw [World.size_alloc, World.size_alloc, World.size_alloc] at h; exact blk_alloc h _
  have q3 : W0.heap[w.heap.size + 1 + 1 + 1 + 1]? = some (.cells #[.slice A ds.length c, .int .i64 last, .int .i64 ser] 26 (0, 0)) := by
    rw [← hW0]; have h := blk_new ((((w.alloc (.cells #[.slice A ds.length c, .int .i64 last, .int .i64 ser] 26)).alloc (.cells #[.int .i64 h] 3)).alloc (.cells #[.slice none 0 0] 27)).alloc (.cells #[.int .i64 0] 3)) (.cells #[.slice A ds.length c, .int .i64 last, .int .i64 ser] 26); rw [World.size_alloc, World.size_alloc, World.size_alloc, World.size_alloc] at h; exact h
  rw [hW0]
  clear hW0
  have hB0s : ∀ W : World, Below w.heap.size w W → W0.heap.size ≤ W.heap.size → W0.heap.size ≤ W.heap.size := fun _ _ h => h
  refine wpIn_rangeFunc_ownG rfl h1 (gf := 108) (lb := #[.pointer (some ⟨w.heap.size + 1 + 1 + 1 + 1, 0, none⟩)]) rfl trivial (enters_of Try.func108 (by kernel_rfl) rfl)
    (edges_stops (n - 1) (by omega) (w.heap.size + 1 + 1 + 1 + 1) w.heap.size (w.heap.size + 1 + 1) (fun k => k = w.heap.size + 1 + 1 ∨ k = w.heap.size + 1 + 1 + 1) A c ds last ser hbig hd hF W0 (by omega) (by omega) (by omega) (by omega) (by unfold rowOf; rw [(blk_cell q2 0).trans rfl]; rfl) (fun k hk => by omega) q3 (fun W' hb => HV.out W' (hB0.trans hb)))
    KpE.trans (kpE_b (by omega) (by omega)) (Below.refl _ _) (fun _ => rfl)
    (fun pre W => ((∃ v, Boxed W (w.heap.size + 1 + 1) 27 v ∧ W.ownsRow W0.heap.size 3 1 v (byL h pre).1.length ((byL h pre).1.map (Value.int .i64)) ∧ True) ∧ W.heap[w.heap.size + 1]? = some (.cells #[.int .i64 h] 3 (0, 0)) ∧ W.heap[w.heap.size + 1 + 1 + 1]? = some (.cells #[.int .i64 (byL h pre).2] 3 (0, 0)) ∧ W0.heap.size ≤ W.heap.size) ∧ Below w.heap.size w W)
    (fun _ _ _ => False)
    (OwnFrom.and (OwnFrom.and (Own.from (holdsRow_own W0.heap.size (w.heap.size + 1 + 1) 27 3 1 (fun pre : List (Int × Int) => (byL h pre).1.length) (fun pre : List (Int × Int) => (byL h pre).1.map (Value.int .i64)) (fun _ _ => True)) _) (OwnFrom.and (Own.from (blk_own _ _ _) _) (OwnFrom.and (Own.from (blk_own' (fun pre : List (Int × Int) => #[Value.int .i64 (byL h pre).2]) _ _) _) (fun _ _ _ _ hs hg _ => Nat.le_trans hs hg.size)))) (ownFrom_below (Nat.le_refl _) (by omega)))
    (fun _ _ _ _ _ hs _ _ => hs)
    ⟨⟨⟨_, q2, World.ownsRow_nil _ _ _ _, trivial⟩, q1, q4, Nat.le_refl _⟩, hB0⟩
    (fun x => { tmps := #[.agg #[.slice A ds.length c, .int .i64 last, .int .i64 ser], .int .i64 h, .pointer (some ⟨w.heap.size, 0, none⟩), .pointer (some ⟨w.heap.size + 1, 0, none⟩), .pointer (some ⟨w.heap.size + 1 + 1, 0, none⟩), .pointer (some ⟨w.heap.size + 1 + 1 + 1, 0, none⟩), .int .i64 x.1, .int .i64 x.2, .agg #[.slice A ds.length c, .int .i64 last, .int .i64 ser], .func (.func 108) #[] #[.pointer (some ⟨w.heap.size + 1 + 1 + 1 + 1, 0, none⟩)], .int .i64 x.1, .int .i64 x.2, undef, undef, undef, undef, undef, undef, undef, undef, undef, undef, undef, undef, undef, undef], defers := [] }) ?assign ?body ?done ?stop
  case assign =>
    intro l x W K hK
    gi_wp2
    exact hK
  case body =>
    rintro l pre ⟨x1, x⟩ W ⟨⟨⟨v, hv, hrow, -⟩, hbh, hbl, hbs⟩, hB⟩ hlt
    obtain ⟨A9, n9, c9, rfl⟩ := own_sl hrow
    have k0 := (blk_cell hbh 0).trans rfl
    have k1 := (blk_cell hbl 0).trans rfl
    have k2 := blk_frozen hbl 0
    have hc4 := hv.cell
    have hno := @byL_no h pre x1 x
    have hyes := @byL_yes h pre x1 x
    have hdl := byL_len h pre
    obtain ⟨z, hz⟩ : ∃ z, z = byL h pre := ⟨_, rfl⟩
    rw [← hz] at hno hyes hdl hbl k1 hrow
    obtain ⟨lz, la⟩ := z
    dsimp only at hno hyes hdl hbl k1 hrow
    by_cases e : x = h
    · have e1 : decide (x = h) = true := decide_eq_true e
      have e2 : (x == h) = true := by simpa using e
      by_cases g : x1 = la
      · have hs := hno (fun y => y.2 g)
        subst e
        subst g
        gi_wp2
        exact ⟨(KeepsOthers.refl _).from _, KpE.refl _ _ _ _, ⟨⟨_, hv, by rw [hs]; exact hrow⟩, hbh, by rw [hs]; exact hbl, hbs⟩, hB⟩
      · have hs := hyes ⟨e, g⟩
        have g1 : (x1 == la) = false := by simpa using g
        have g2 : (x1 != la) = true := by simpa using g
        subst e
        have hne : ∀ k, k < W0.heap.size → some k ≠ (Value.slice A9 n9 c9).ownBlock := fun k hk ek => by have := own_base hrow k ek.symm; omega
        have hW0W : W0.heap.size ≤ W.heap.size := hB0s W hB hbs
        gi_wp2_with (gi_at_builtin; refine wpListIn_append_own_at _ rfl _ _ 27 rfl W0.heap.size 3 i0 (.int .i64 0) 1 8 Try.underlying27 hi hz0 hz1 hz2 rfl (by decide) _ _ _ rfl (hrow.alloc _) ⟨W.heap.size, 0, none⟩ 1 1 [.int .i64 x1] rfl rfl (cell_one_new _ _ _) (by simp [Value.oneCell']) (by unfold maxLen; omega) (by omega) (by simp; omega) ?_; intro v' w1 hown' hgrow _ hat; obtain ⟨g', cap', rfl⟩ := ownsRow_succ hown'; obtain ⟨hv1, hv2, hr2, hk2, hb2⟩ := hv.appended (by decide) (ownsRow_le hrow (by omega)) hB.size (by omega) (ownsRow_le hown' (by omega)) hgrow; have hc1 := hv1.cell; have hf1 := hv1.frozen; have hbl1 := (hgrow.block (w.heap.size + 1 + 1 + 1) (by simp; omega) (hne _ (by omega))).trans ((Below.heap_alloc W _ _ (by omega)).trans hbl); have hbl2 := blk_far hbl1 (w.heap.size + 1 + 1) 0 (.slice (some ⟨g', 0, none⟩) (lz.length + 1) cap') (by omega); have k5 := (blk_cell hbl2 0).trans rfl; have f5 := blk_frozen hbl2 0)
        have hk3 : KpE w.heap.size (w.heap.size + 1 + 1) (fun k => k = w.heap.size + 1 + 1 ∨ k = w.heap.size + 1 + 1 + 1) _ _ := KpE.app hv (Or.inl rfl) hb2 hgrow hat hv2
        have hbh1 := (hgrow.block (w.heap.size + 1) (by simp; omega) (hne _ (by omega))).trans ((Below.heap_alloc W _ _ (by omega)).trans hbh)
        have hbh2 := blk_far hbh1 (w.heap.size + 1 + 1) 0 (.slice (some ⟨g', 0, none⟩) (lz.length + 1) cap') (by omega)
        have hv3 : Boxed _ (w.heap.size + 1 + 1) 27 _ := blk_far hv2 (w.heap.size + 1 + 1 + 1) 0 (.int .i64 x1) (by omega)
        have hne' : ∀ k, k < W0.heap.size → some k ≠ (Value.slice (some ⟨g', 0, none⟩) (lz.length + 1) cap').ownBlock := fun k hk ek => by have := own_base hown' k ek.symm; omega
        have hr3 := hown'.kept (grownBy_setCell' w1 (w.heap.size + 1 + 1) (.slice (some ⟨g', 0, none⟩) (lz.length + 1) cap')) (.inr (hne' _ (by omega)).symm)
        have hr4 := hr3.kept (grownBy_setCell' _ (w.heap.size + 1 + 1 + 1) (.int .i64 x1)) (.inr (hne' _ (by omega)).symm)
        refine ⟨(hk2.from _).trans ((KeepsOthers.setCell _ _ _).from _), hk3.trans (KpE.set _ _ _ (by omega) (Or.inr rfl) (by unfold rowOf; rw [hv3.cell, hv2.cell])), ⟨⟨_, hv3, by rw [hs]; simpa using hr4⟩, blk_far hbh2 _ _ _ (by omega), by rw [hs]; exact blk_put hbl2 0 _ rfl, by have := hk2.size; simp at this ⊢; omega⟩, (hB.trans hb2).setCell (p := ⟨w.heap.size + 1 + 1 + 1, 0, none⟩) (by dsimp only; omega) _⟩
    · have hs := hno (fun y => e y.1)
      have e1 : decide (x = h) = false := decide_eq_false e
      have e2 : (x == h) = false := by simpa using e
      gi_wp2
      exact ⟨(KeepsOthers.refl _).from _, KpE.refl _ _ _ _, ⟨⟨_, hv, by rw [hs]; exact hrow, trivial⟩, hbh, by rw [hs]; exact hbl, hbs⟩, hB⟩
  case done =>
    rintro D ys W hD rfl ⟨⟨⟨v, hv, hrow, -⟩, hbh, hbl, hbs⟩, hB⟩ hK
    obtain ⟨A9, n9, c9, rfl⟩ := own_sl hrow
    have hc2 := hv.cell
    have hf2 := hv.frozen
    gi_wp2
    have hv2 := hv.set (.slice A9 n9 c9)
    have hK' := (KeepsOthers.setCell W ⟨w.heap.size + 1 + 1, 0, none⟩ (.slice A9 n9 c9)).same D _ hK rfl
    refine ⟨by simp, .inl ⟨_, _, rfl, run_takeDeferred hK', ?_⟩⟩
    have hc5 := cell_kept hv2.cell (grownBy_putObj' _ D (.deferred none)) (fun r e => by cases e; exact ⟨_, hK', rfl⟩)
    have hr5 := hrow.kept (grownBy_setCell' W (w.heap.size + 1 + 1) (.slice A9 n9 c9)) (.inr (hv.not_row (by decide) hrow).symm)
    refine ⟨.slice A9 n9 c9, ?_, .slice A9 n9 c9, rfl, ?_, (hB.setCell (p := ⟨w.heap.size + 1 + 1, 0, none⟩) (by dsimp only; omega) _).trans (belowK_b (w := w) (Nat.le_refl _) _ D _ _ (by omega) hK' rfl rfl)⟩
    · simp [results, Try.f39, go_sem, hc5]
    · exact Kd.R_mono (R_of_own (ownsRow_le (ownsRow_putObj hr5 _ hK' rfl) (by omega))) (fun _ _ => trivial)
  case stop =>
    rintro D c pre W _ _ h _
    exact h.elim
theorem rBy {w : World} {b : Nat} {P : Nat → Prop} {A : Option Addr} {c : Nat} {ds : List S82} {last ser h : Int} (hbig : ds.length ≤ 1000000) (hd : Apart82 ds) (hF : ∀ h, (getd ds h).1.f5.length ≤ 1000000) (hV : Kd.V k82 82 w b P (.slice A ds.length c) ds) :
    Calls Try.prog 39 #[.agg #[.slice A ds.length c, .int .i64 last, .int .i64 ser], .int .i64 h] w fun e W' => ∃ v, e = .returned v ∧ Kd.R (Kd.int .i64) 3 W' w.heap.size (fun _ => True) v (byC ds h) ∧ Below w.heap.size w W' := (callsIn_wide (n := 9)).1 (rBy_in 9 (by decide) hbig hd hF hV)
/-- Whom h names. -/
def outC (ds : List S82) (h : Int) : List Int := if (getd ds h).2 = 0 then nz (getd ds h).1.f5 else []
set_option maxRecDepth 100000 in
set_option maxHeartbeats 8000000 in
theorem rOut {W : World} {b : Nat} {P : Nat → Prop} {A : Option Addr} {c : Nat} {ds : List S82} {last ser h : Int} (hbig : ds.length ≤ 1000000) (hF : ∀ h, (getd ds h).1.f5.length ≤ 1000000) (hV : Kd.V k82 82 W b P (.slice A ds.length c) ds) :
    Calls Try.prog 36 #[.agg #[.slice A ds.length c, .int .i64 last, .int .i64 ser], .int .i64 h] W fun e W' => ∃ v, e = .returned v ∧ Kd.R (Kd.int .i64) 3 W' W.heap.size (fun _ => True) v (outC ds h) ∧ Below W.heap.size W W' := by
  obtain ⟨W0, hW0⟩ : ∃ W0, W.alloc (.cells #[.slice A ds.length c, .int .i64 last, .int .i64 ser] 26) = W0 := ⟨_, rfl⟩
  have HB0 := Aside0.mk (show Below W.heap.size W W0 by rw [← hW0]; exact (Below.refl W.heap.size W).alloc (Nat.le_refl _) _)
  have HG := Aside0.mk (sGet (W := W0) (P := fun k => P k ∧ k < W.heap.size) (last := last) (ser := ser) (h := h) hbig (Kd.V_below (Kd.V_bound hV) HB0.out))
  have HW := Aside0.mk hW0
  have hFh := hF h
  unfold outC
  obtain ⟨x, hx⟩ : ∃ x, x = getd ds h := ⟨_, rfl⟩
  rw [← hx] at HG hFh ⊢
  obtain ⟨⟨d0, d1, d2, d3, d4, l⟩, r2⟩ := x
  dsimp only at HG hFh ⊢
  have HFH := Aside0.mk hFh
  clear hV hW0 hx hbig hF hFh
  by_cases e : r2 = 0
  · rw [if_pos e]
    subst e
    have HN := Aside0.mk (show vec_Names.f l = some (nz l) by unfold vec_Names.f; rw [if_pos HFH.out])
    go_enter Try.func36, Try.ntmps36
    go_wp2_with (first | (go_at_call 23; rw [HW.out]; refine HG.out.mono ?_; rintro e W1 ⟨v, rfl, hrel, hb⟩; obtain ⟨v1, v2, v3, v4, v5, fa, fn, fc⟩ := v; obtain ⟨_, _, _, _, _, hn, hfc, hfC⟩ := (hrel.below hb (fun _ h => h)).now; dsimp only at hn hfc hfC ⊢; subst hn; have HFC := Aside0.mk hfC; have HFL := Aside0.mk hfc; have HB1 := Aside0.mk (HB0.out.trans (hb.mono HB0.out.size)); clear hb hrel hfc hfC) | (go_at_call 76; refine (vec_Names.calls _ _ l _ _ (Kd.C_below HFC.out ((Below.refl _ _).alloc (Nat.le_refl _) _)) HFL.out HN.out).mono ?_; rintro e W3 ⟨vn, rfl, hR, hd⟩; have HR3 := Aside0.mk hR; have HD := Aside0.mk hd; clear hR hd))
    go_ret
    have h2 := HB1.out.alloc HB1.out.size (.cells #[.int .i64 v1, .int .i64 v2, .int .i64 v3, .int .i64 v4, .bool v5, .slice fa l.length fc] 29)
    exact ⟨_, rfl, Kd.R_lower HR3.out h2.size, h2.trans (HD.out.mono h2.size)⟩
  · rw [if_neg e]
    have e1 : decide (r2 = 0) = false := decide_eq_false e
    have e2 : (r2 == 0) = false := by simpa using e
    go_enter Try.func36, Try.ntmps36
    go_wp2_with (first | (go_at_call 23; rw [HW.out]; refine HG.out.mono ?_; rintro e W1 ⟨v, rfl, hrel, hb⟩; obtain ⟨v1, v2, v3, v4, v5, fa, fn, fc⟩ := v; dsimp only; have HB1 := Aside0.mk (HB0.out.trans (hb.mono HB0.out.size)); clear hb hrel))
    go_ret
    exact ⟨_, rfl, Kd.R_nil _ _ _ _ _, HB1.out.alloc HB1.out.size _⟩
set_option maxHeartbeats 2000000 in
theorem rTimes {w : World} {A : Option Addr} {c : Nat} {l : List Int} {h : Int} (hC : Kd.C (Kd.int .i64) w A l.length l) (hc : l.length ≤ c) (hl : l.length ≤ 1000000) :
    Calls Try.prog 40 #[.slice A l.length c, .int .i64 h] w fun e W' => e = .returned (.int .i64 (cn (nz l) h)) ∧ Below w.heap.size w W' := by
  have HN := Aside0.mk (show vec_Count.f l h = some (cn (nz l) h) by unfold vec_Count.f; rw [if_pos hl])
  have HC := Aside0.mk hC
  clear hC
  go_enter Try.func40, Try.ntmps40
  go_wp2_with (go_at_call 78; refine (vec_Count.calls _ _ l h _ _ HC.out hc HN.out).mono ?_; rintro e W3 ⟨rfl, hd⟩)
  go_ret
  exact ⟨rfl, hd⟩
/-- The fields of what is got. -/
theorem getd_len {ds : List S82} {n : Nat} (h : ∀ d, d ∈ ds → d.f2.f5.length ≤ n) (hh : Int) : (getd ds hh).1.f5.length ≤ n := by
  unfold getd getv
  by_cases e : (fnd S82.f0 S82.f1 ds hh).2 = 0
  · rw [if_pos e]
    by_cases e2 : (ds.getD (fnd S82.f0 S82.f1 ds hh).1.toNat z82).f0 = 2
    · rw [if_pos e2]; exact Nat.zero_le _
    · rw [if_neg e2]
      rw [List.getD_eq_getElem?_getD]
      cases hx : ds[(fnd S82.f0 S82.f1 ds hh).1.toNat]? with
      | none => exact Nat.zero_le _
      | some d => exact h d (List.mem_of_getElem? hx)
  · rw [if_neg e]; exact Nat.zero_le _
/-! What the walks over a store ask of it, to be tested. -/
def apB (ds : List S82) : Bool := (List.range ds.length).all fun i => (List.range ds.length).all fun j => !((rd_T82 ds (i : Int)).f0 == 1 && (rd_T82 ds (j : Int)).f0 == 1 && (rd_T82 ds (i : Int)).f2.f0 == (rd_T82 ds (j : Int)).f2.f0) || i == j
def gdB (ds : List S82) : Bool := decide (ds.length ≤ 1000000) && apB ds && ds.all fun d => decide (d.f2.f5.length ≤ 1000000)
theorem gd_of {ds : List S82} (h : gdB ds = true) : ds.length ≤ 1000000 ∧ Apart82 ds ∧ ∀ h, (getd ds h).1.f5.length ≤ 1000000 := by
  unfold gdB at h
  rw [Bool.and_eq_true, Bool.and_eq_true] at h
  obtain ⟨⟨h1, h2⟩, h3⟩ := h
  refine ⟨of_decide_eq_true h1, fun i j hi hj e => ?_, fun x => getd_len (fun d hd => of_decide_eq_true (List.all_eq_true.mp h3 d hd)) x⟩
  have h4 := List.all_eq_true.mp (List.all_eq_true.mp h2 i (List.mem_range.mpr hi.1)) j (List.mem_range.mpr hj.1)
  rw [hi.2, hj.2, e] at h4
  simpa using h4
end Go.Proofs.Ytkmjboeabmmecaa.MAll
