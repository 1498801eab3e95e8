/- The document's tally: what it comes to. Conditions: those of each lemma. -/
import Derived.Test.YtacgijcdcodfkaaProg
import Derived.Below
import Derived.Deep.Draws
import Derived.Deep.AppendLies
import Derived.Maps.AppendAt
import Derived.OwnWalk
import Derived.Laws.BytesArg
import Derived.Laws.MakeOwn
import Derived.Laws.OwnMore
import Derived.Deep.OwnRows
import Derived.Tactics
import Derived.Lib.ConvBytes
import Derived.Laws.Slices
import Derived.WalkKit
import Derived.KernelRfl
import Derived.RowKit3
import Derived.Deep.LoopGhost
import Derived.Deep.QuietTactic
import Derived.BigQuiet
import Derived.WideLaws
import Derived.Deep.DeepCutAuto
import Derived.Deep.CutBlock
import Derived.Deep.RegionHeld3
import Derived.Laws.Rows
import Derived.Lib.AppendStr
import Derived.ArgAppend
import Derived.Laws.IdiomCopy
import Derived.OrdersHeld
import Derived.Laws.BitsLemmas
import Derived.RowKit
import Derived.OpenShut
import Derived.Test.YtacgijcdcodfkaaWWords
import Derived.Test.YtacgijcdcodfkaaWLast
import Derived.Test.YtacgijcdcodfkaaWTab
import Derived.Test.YtacgijcdcodfkaaWQPut
import Derived.Test.YtacgijcdcodfkaaWApart
import Derived.Test.YtacgijcdcodfkaaWArr
import Derived.Test.YtacgijcdcodfkaaWZeros
import Derived.Test.YtacgijcdcodfkaaWFoot
import Derived.Test.YtacgijcdcodfkaaWKept
import Derived.Test.YtacgijcdcodfkaaWShare
import Derived.Test.YtacgijcdcodfkaaWN
import Derived.Test.YtacgijcdcodfkaaWEqStruct
import Derived.Test.YtacgijcdcodfkaaWRepsOne
import Derived.Test.YtacgijcdcodfkaaWGuard
import Derived.Test.YtacgijcdcodfkaaWNEv
import Derived.Test.YtacgijcdcodfkaaWMore
import Derived.Test.YtacgijcdcodfkaaArr4
import Derived.Test.YtacgijcdcodfkaaSteps
import Derived.Test.YtacgijcdcodfkaaMAllx0
import Derived.RangeFuncBox
import Derived.RangeFuncNested
import Derived.RangeFuncBound
import Derived.RangeFuncCalls
import Derived.RangeFuncLeaves
import Derived.Shelf.Abstract
import Derived.Shelf.RegionOpen
import Derived.OwnWalkIn
import Derived.TacticsInMore
import Derived.LoopNIn
import Derived.LoopIn
import Derived.RegionTactic
import Derived.WalkSpells
import Derived.Lib.SliceRun
import Derived.Test.YtacgijcdcodfkaaCopy
import Derived.Test.YtacgijcdcodfkaaHndI
namespace Go.Proofs.Ytacgijcdcodfkaa.MAll
open Go.RowKit Go.Proofs.YtacgijcdcodfkaaW.PrintWords Go.Proofs.YtacgijcdcodfkaaW.PrintLast Go.Proofs.YtacgijcdcodfkaaW.PrintMore
attribute [local go_sem] max2_int min2_int max_two min_two max_three min_three max_four min_four   -- for this text's walks alone
set_option linter.unusedVariables false
set_option linter.unusedSimpArgs false
attribute [local go_sem] Oper.semAt_some
open Go.Shelf Go.Proofs.Ytacgijcdcodfkaa
theorem band0 : Go.bits .and .i64 0 3 = 0 := by kernel_rfl
theorem band1 : Go.bits .and .i64 1 3 = 1 := by kernel_rfl
theorem band2 : Go.bits .and .i64 2 3 = 2 := by kernel_rfl
theorem band3 : Go.bits .and .i64 3 3 = 3 := by kernel_rfl
attribute [local go_sem] band0 band1 band2 band3
/-- The four counts of the first k cells. -/
def cs4r (xs : List S71) (k : Nat) : Array Value := #[.int .i64 (cst S71.f0 (xs.take k) 0), .int .i64 (cst S71.f0 (xs.take k) 1), .int .i64 (cst S71.f0 (xs.take k) 2), .int .i64 (cst S71.f0 (xs.take k) 3)]
theorem cst_stepr (xs : List S71) (k : Nat) (hk : k < xs.length) (s : Int) : cst S71.f0 (xs.take (k + 1)) s = cst S71.f0 (xs.take k) s + (if (xs.getD k z71).f0 = s then 1 else 0) := by
  have e : xs.take (k + 1) = xs.take k ++ [xs.getD k z71] := by rw [List.take_add_one, List.getD_eq_getElem?_getD, List.getElem?_eq_getElem hk]; rfl
  unfold cst
  rw [e, List.filter_append, List.length_append]
  generalize xs.getD k z71 = x
  by_cases c : x.f0 = s
  · simp [c]
  · simp [c]
theorem cst_ler (xs : List S71) (k : Nat) (s : Int) : 0 ≤ cst S71.f0 (xs.take k) s ∧ cst S71.f0 (xs.take k) s ≤ (xs.length : Int) := by
  unfold cst
  have h1 := List.length_filter_le (fun c : S71 => c.f0 == s) (xs.take k)
  have h2 := List.length_take_le k xs
  have h3 := List.length_take_le' k xs
  omega
set_option maxRecDepth 100000 in
set_option maxHeartbeats 4000000 in
theorem reftallyw (A : Option Addr) (c : Nat) (xs : List S71) (last : Int) (hbig : xs.length ≤ 1000000) (hst : ∀ x ∈ xs, 0 ≤ x.f0 ∧ x.f0 ≤ 3) (w : World) (hC : Kd.C k71 w A xs.length xs) :
    Calls Try.prog 30 #[.agg #[.slice A xs.length c, .int .i64 last]] w fun e w' => e = .returned (.agg (cs4r xs xs.length)) ∧ Below w.heap.size w w' := by
  have HC := Aside0.mk hC
  have HST := Aside0.mk hst
  clear hC hst
  go_enter Try.func30, Try.ntmps30
  go_wp2
  go_loopw [4] (fun i wr => ∃ k : Nat, k ≤ xs.length ∧ i = .int .i64 k ∧ wr.heap[w.heap.size + 1 + 1]? = some (.cells (cs4r xs k) 39 (0, 0)) ∧ (wr.heap[w.heap.size]? = some (.cells #[.slice A xs.length c, .int .i64 last] 29 (0, 0)) ∧ wr.heap[w.heap.size + 1]? = some (.cells #[.int .i64 0, .int .i64 0, .int .i64 0, .int .i64 0] 39 (0, 0))) ∧ Below w.heap.size w wr)
    (fun i _ => xs.length - (intOf i).toNat)
  case atStart =>
    refine ⟨0, Nat.zero_le _, rfl, ?_, ⟨?_, ?_⟩, ?_⟩
    · have h := blk_new ((w.alloc (.cells #[.slice A xs.length c, .int .i64 last] 29)).alloc (.cells #[.int .i64 0, .int .i64 0, .int .i64 0, .int .i64 0] 39)) (.cells #[.int .i64 0, .int .i64 0, .int .i64 0, .int .i64 0] 39)
      rw [World.size_alloc, World.size_alloc] at h
      exact h
    · exact blk_alloc (blk_alloc (blk_new w _) _) _
    · refine blk_alloc ?_ _
      have h := blk_new (w.alloc (.cells #[.slice A xs.length c, .int .i64 last] 29)) (.cells #[.int .i64 0, .int .i64 0, .int .i64 0, .int .i64 0] 39)
      rw [World.size_alloc] at h
      exact h
    · exact (((Below.refl _ w).alloc (Nat.le_refl _) _).alloc (by simp) _).alloc (by simp; omega) _
  case round =>
    obtain ⟨k, hk, rfl, hb, ⟨hb1, hb2⟩, hB⟩ := hrel
    have q0 := (blk_cell hb1 0).trans rfl
    have HQ1 := Aside0.mk hb1
    have HQ2 := Aside0.mk hb2
    have hl1 := blk_lt hb1
    have hl2 := blk_lt hb2
    clear hb1 hb2
    by_cases hlt : k < xs.length
    · obtain ⟨ad, e, hcx, hcy, hcz⟩ := at_T71 (Kd.C_below HC.out hB) (k : Int) (by omega) (by omega)
      cases e
      rw [Int.toNat_natCast] at hcx hcy hcz
      have hrd : rd_T71 xs (k : Int) = xs.getD k z71 := by unfold rd_T71; rw [Int.toNat_natCast]
      have hmem : xs.getD k z71 ∈ xs := by rw [List.getD_eq_getElem?_getD, List.getElem?_eq_getElem hlt]; exact List.getElem_mem hlt
      have hr := HST.out _ hmem
      rw [hrd] at hcx hcy hcz
      have h0 := cst_stepr xs k hlt 0
      have h1 := cst_stepr xs k hlt 1
      have h2 := cst_stepr xs k hlt 2
      have h3 := cst_stepr xs k hlt 3
      have l0 := cst_ler xs k 0
      have l1 := cst_ler xs k 1
      have l2 := cst_ler xs k 2
      have l3 := cst_ler xs k 3
      unfold cs4r at hb
      generalize cst S71.f0 (xs.take k) 0 = n0 at *
      generalize cst S71.f0 (xs.take k) 1 = n1 at *
      generalize cst S71.f0 (xs.take k) 2 = n2 at *
      generalize cst S71.f0 (xs.take k) 3 = n3 at *
      generalize xs.getD k z71 = x at *
      have e0 : wr.cell? ⟨w.heap.size + 1 + 1, 0, none⟩ = some (.int .i64 n0) := (blk_cell hb 0).trans rfl
      have e1 : wr.cell? ⟨w.heap.size + 1 + 1, 1, none⟩ = some (.int .i64 n1) := (blk_cell hb 1).trans rfl
      have e2 : wr.cell? ⟨w.heap.size + 1 + 1, 2, none⟩ = some (.int .i64 n2) := (blk_cell hb 2).trans rfl
      have e3 : wr.cell? ⟨w.heap.size + 1 + 1, 3, none⟩ = some (.int .i64 n3) := (blk_cell hb 3).trans rfl
      have f0 := blk_frozen hb 0
      have f1 := blk_frozen hb 1
      have f2 := blk_frozen hb 2
      have f3 := blk_frozen hb 3
      have hlb := blk_lt hb
      have w0 : wrap64 (n0 + 1) = n0 + 1 := by unfold wrap64; omega
      have w1 : wrap64 (n1 + 1) = n1 + 1 := by unfold wrap64; omega
      have w2 : wrap64 (n2 + 1) = n2 + 1 := by unfold wrap64; omega
      have w3 : wrap64 (n3 + 1) = n3 + 1 := by unfold wrap64; omega
      have HB := Aside0.mk hB
      have HBL := Aside0.mk hb
      have HK := Aside0.mk (And.intro h0 (And.intro h1 (And.intro h2 h3)))
      obtain ⟨p0, p1, p2⟩ := x
      dsimp only at *
      have hcase : p0 = 0 ∨ p0 = 1 ∨ p0 = 2 ∨ p0 = 3 := by omega
      clear hB hb h0 h1 h2 h3 hmem hrd l0 l1 l2 l3 hr
      rcases hcase with rfl | rfl | rfl | rfl
      · go_wp2
        have hc : cs4r xs (k + 1) = #[.int .i64 (n0 + 1), .int .i64 (n1), .int .i64 (n2), .int .i64 (n3)] := by unfold cs4r; rw [HK.out.1, HK.out.2.1, HK.out.2.2.1, HK.out.2.2.2]; simp
        exact ⟨⟨k + 1, by omega, by simp, by rw [hc]; exact blk_put HBL.out 0 _ rfl, ⟨(Below.heap_setCell _ _ _ _ (by dsimp only; omega)).trans HQ1.out, (Below.heap_setCell _ _ _ _ (by dsimp only; omega)).trans HQ2.out⟩, HB.out.setCell (p := ⟨w.heap.size + 1 + 1, 0, none⟩) (by dsimp only; omega) _⟩, by simp [intOf]; omega⟩
      · go_wp2
        have hc : cs4r xs (k + 1) = #[.int .i64 (n0), .int .i64 (n1 + 1), .int .i64 (n2), .int .i64 (n3)] := by unfold cs4r; rw [HK.out.1, HK.out.2.1, HK.out.2.2.1, HK.out.2.2.2]; simp
        exact ⟨⟨k + 1, by omega, by simp, by rw [hc]; exact blk_put HBL.out 1 _ rfl, ⟨(Below.heap_setCell _ _ _ _ (by dsimp only; omega)).trans HQ1.out, (Below.heap_setCell _ _ _ _ (by dsimp only; omega)).trans HQ2.out⟩, HB.out.setCell (p := ⟨w.heap.size + 1 + 1, 1, none⟩) (by dsimp only; omega) _⟩, by simp [intOf]; omega⟩
      · go_wp2
        have hc : cs4r xs (k + 1) = #[.int .i64 (n0), .int .i64 (n1), .int .i64 (n2 + 1), .int .i64 (n3)] := by unfold cs4r; rw [HK.out.1, HK.out.2.1, HK.out.2.2.1, HK.out.2.2.2]; simp
        exact ⟨⟨k + 1, by omega, by simp, by rw [hc]; exact blk_put HBL.out 2 _ rfl, ⟨(Below.heap_setCell _ _ _ _ (by dsimp only; omega)).trans HQ1.out, (Below.heap_setCell _ _ _ _ (by dsimp only; omega)).trans HQ2.out⟩, HB.out.setCell (p := ⟨w.heap.size + 1 + 1, 2, none⟩) (by dsimp only; omega) _⟩, by simp [intOf]; omega⟩
      · go_wp2
        have hc : cs4r xs (k + 1) = #[.int .i64 (n0), .int .i64 (n1), .int .i64 (n2), .int .i64 (n3 + 1)] := by unfold cs4r; rw [HK.out.1, HK.out.2.1, HK.out.2.2.1, HK.out.2.2.2]; simp
        exact ⟨⟨k + 1, by omega, by simp, by rw [hc]; exact blk_put HBL.out 3 _ rfl, ⟨(Below.heap_setCell _ _ _ _ (by dsimp only; omega)).trans HQ1.out, (Below.heap_setCell _ _ _ _ (by dsimp only; omega)).trans HQ2.out⟩, HB.out.setCell (p := ⟨w.heap.size + 1 + 1, 3, none⟩) (by dsimp only; omega) _⟩, by simp [intOf]; omega⟩
    · obtain rfl : k = xs.length := by omega
      unfold cs4r at hb
      have e0 : wr.cell? ⟨w.heap.size + 1 + 1, 0, none⟩ = some (.int .i64 (cst S71.f0 (xs.take xs.length) 0)) := (blk_cell hb 0).trans rfl
      have e1 : wr.cell? ⟨w.heap.size + 1 + 1, 1, none⟩ = some (.int .i64 (cst S71.f0 (xs.take xs.length) 1)) := (blk_cell hb 1).trans rfl
      have e2 : wr.cell? ⟨w.heap.size + 1 + 1, 2, none⟩ = some (.int .i64 (cst S71.f0 (xs.take xs.length) 2)) := (blk_cell hb 2).trans rfl
      have e3 : wr.cell? ⟨w.heap.size + 1 + 1, 3, none⟩ = some (.int .i64 (cst S71.f0 (xs.take xs.length) 3)) := (blk_cell hb 3).trans rfl
      have f0 := blk_frozen hb 0
      have f1 := blk_frozen hb 1
      have f2 := blk_frozen hb 2
      have f3 := blk_frozen hb 3
      have g0 : wr.cell? ⟨w.heap.size + 1, 0, none⟩ = some (.int .i64 0) := (blk_cell HQ2.out 0).trans rfl
      have g1 : wr.cell? ⟨w.heap.size + 1, 1, none⟩ = some (.int .i64 0) := (blk_cell HQ2.out 1).trans rfl
      have g2 : wr.cell? ⟨w.heap.size + 1, 2, none⟩ = some (.int .i64 0) := (blk_cell HQ2.out 2).trans rfl
      have g3 : wr.cell? ⟨w.heap.size + 1, 3, none⟩ = some (.int .i64 0) := (blk_cell HQ2.out 3).trans rfl
      have i0 := blk_frozen HQ2.out 0
      have i1 := blk_frozen HQ2.out 1
      have i2 := blk_frozen HQ2.out 2
      have i3 := blk_frozen HQ2.out 3
      have HBL := Aside0.mk hb
      have HB := Aside0.mk hB
      clear hb hB
      go_wp2
      have hc : cs4r xs xs.length = #[.int .i64 (cst S71.f0 xs 0), .int .i64 (cst S71.f0 xs 1), .int .i64 (cst S71.f0 xs 2), .int .i64 (cst S71.f0 xs 3)] := by unfold cs4r; rw [List.take_length]
      refine bodyPost_ret (results_cell_row rfl _ _ (w.heap.size + 1) 39 (cs4r xs xs.length) (0, 0) _ rfl (by rw [hc]; exact blk_put (blk_put (blk_put (blk_put HQ2.out 0 _ rfl) 1 _ rfl) 2 _ rfl) 3 _ rfl) Try.underlying39 rfl (by kernel_rfl)) rfl ?_
      exact ⟨rfl, (((HB.out.setCell (p := ⟨w.heap.size + 1, 0, none⟩) (by simp) _).setCell (p := ⟨w.heap.size + 1, 1, none⟩) (by simp) _).setCell (p := ⟨w.heap.size + 1, 2, none⟩) (by simp) _).setCell (p := ⟨w.heap.size + 1, 3, none⟩) (by simp) _⟩

end Go.Proofs.Ytacgijcdcodfkaa.MAll
