/- The slab of objects: what its functions come to. Conditions: those of each lemma. -/
import Derived.Test.YtkmjboeabmmecaaHndA
namespace Go.Proofs.Ytkmjboeabmmecaa.MAll
open Go.RowKit Go.Proofs.YtkmjboeabmmecaaW.PrintWords Go.Proofs.YtkmjboeabmmecaaW.PrintLast Go.Proofs.YtkmjboeabmmecaaW.PrintMore
attribute [local go_sem] max2_int min2_int max_two min_two max_three min_three max_four min_four
set_option linter.unusedVariables false
set_option linter.unusedSimpArgs false
attribute [local go_sem] Oper.semAt_some
open Go.Shelf Go.Proofs.Ytkmjboeabmmecaa
theorem results_find82 (tmps : Array Value) (w : World) (g4 g5 : Nat) (u u' : Value) (h4 : tmps.getD 4 undef = .pointer (some ⟨g4, 0, none⟩)) (h5 : tmps.getD 5 undef = .pointer (some ⟨g5, 0, none⟩))
    (b4 : w.heap[g4]? = some (.cells #[u] 3 (0, 0))) (b5 : w.heap[g5]? = some (.cells #[u'] 32 (0, 0))) : (results Try.f94 tmps).run Try.prog w = .ok (.tuple #[u, u']) w := by
  have h4' : tmps[4]?.getD undef = .pointer (some ⟨g4, 0, none⟩) := by simpa using h4
  have h5' : tmps[5]?.getD undef = .pointer (some ⟨g5, 0, none⟩) := by simpa using h5
  have c4 : w.cell? ⟨g4, 0, none⟩ = some u := (blk_cell b4 0).trans rfl
  have c5 : w.cell? ⟨g5, 0, none⟩ = some u' := (blk_cell b5 0).trans rfl
  simp [results, Try.f94, h4', h5', asAddr, go_sem, c4, c5]
theorem idx145_082 (w : World) (x0 x1 : Int) : (Instr.index 145 (.agg #[.int .i64 x0, .int .i64 x1]) (.int .i64 0)).run Try.prog w = .ok (.int .i64 x0) w := by kernel_rfl
theorem idx145_182 (w : World) (x0 x1 : Int) : (Instr.index 145 (.agg #[.int .i64 x0, .int .i64 x1]) (.int .i64 1)).run Try.prog w = .ok (.int .i64 x1) w := by kernel_rfl
attribute [local go_sem] idx145_082 idx145_182
set_option maxRecDepth 100000 in
set_option maxHeartbeats 4000000 in
theorem findw82 (A : Option Addr) (c : Nat) (xs : List SR) (last h : Int) (hbig : xs.length ≤ 1000000) (w : World) (hC : Kd.C kR w A xs.length xs) :
    Calls Try.prog 94 #[.agg #[.slice A xs.length c, .int .i64 last], .int .i64 h] w fun e w' => e = .returned (.tuple #[.int .i64 (fnd SR.f0 SR.f1 xs h).1, .int .i64 (fnd SR.f0 SR.f1 xs h).2]) ∧ Below w.heap.size w w' := by
  have HC := Aside0.mk hC
  clear hC
  by_cases hz : h = 0
  · subst hz
    go_enter Try.func94, Try.ntmps94
    go_wp2
    refine bodyPost_ret (v := .tuple #[.int .i64 (-1), .int .i64 2]) (by simp [results, Try.f94, go_sem]) rfl ?_
    exact ⟨rfl, (((((Below.refl _ w).alloc (Nat.le_refl _) _).alloc (by simp) _).alloc (by simp; omega) _).alloc (by simp; omega) _)⟩
  · have hzb : decide (h = 0) = false := decide_eq_false hz
    have hzc : (h == 0) = false := by simpa using hz
    refine (callsIn_wide (n := 5)).1 ?_
    refine callsIn_of_wp_marks Try.func94 rfl trivial ?_ rfl
    simp only [Try.ntmps94, List.size_toArray, List.length_cons, List.length_nil, Nat.reduceAdd, Nat.reduceSub, Array.replicate_succ, Array.replicate_zero, List.push_toArray, List.append_toArray, List.nil_append, List.cons_append]
    gi_wp2
    refine wpIn_loop_rounds 3 ?_
    rw [roundsIn_succ]
    gi_wp2_with (refine ⟨trivial, ?_⟩; gi_at_call 103; refine (callsIn_wide.2 (in82_c _ _ _ _ _ _)).mono ?_; rintro e w' ⟨rfl, rfl⟩)
    obtain ⟨V1, hV1⟩ : ∃ V1, (((w.alloc (.cells #[.slice A xs.length c, .int .i64 last] 24)).alloc (.cells #[.int .i64 h] 3)).alloc (.cells #[.int .i64 0] 3)).alloc (.cells #[.int .i64 0] 32) = V1 := ⟨_, rfl⟩
    have hB1 : Below w.heap.size w V1 := by rw [← hV1]; exact ((((Below.refl _ w).alloc (Nat.le_refl _) _).alloc (by simp) _).alloc (by simp; omega) _).alloc (by simp; omega) _
    have hz1 : V1.heap.size = w.heap.size + 1 + 1 + 1 + 1 := by rw [← hV1]; simp
    have B2_1 := Aside0.mk (show V1.heap[w.heap.size]? = some (.cells #[.slice A xs.length c, .int .i64 last] 24 (0, 0)) by rw [← hV1]; exact blk_alloc (blk_alloc (blk_alloc (blk_new w _) _) _) _)
    have B3_1 := Aside0.mk (show V1.heap[w.heap.size + 1]? = some (.cells #[.int .i64 h] 3 (0, 0)) by rw [← hV1]; refine blk_alloc (blk_alloc ?_ _) _; have h := blk_new (w.alloc (.cells #[.slice A xs.length c, .int .i64 last] 24)) (.cells #[.int .i64 h] 3); rw [World.size_alloc] at h; exact h)
    have B4_1 := Aside0.mk (show V1.heap[w.heap.size + 1 + 1]? = some (.cells #[.int .i64 0] 3 (0, 0)) by rw [← hV1]; refine blk_alloc ?_ _; have h := blk_new ((w.alloc (.cells #[.slice A xs.length c, .int .i64 last] 24)).alloc (.cells #[.int .i64 h] 3)) (.cells #[.int .i64 0] 3); rw [World.size_alloc, World.size_alloc] at h; exact h)
    have B5_1 := Aside0.mk (show V1.heap[w.heap.size + 1 + 1 + 1]? = some (.cells #[.int .i64 0] 32 (0, 0)) by rw [← hV1]; have h := blk_new (((w.alloc (.cells #[.slice A xs.length c, .int .i64 last] 24)).alloc (.cells #[.int .i64 h] 3)).alloc (.cells #[.int .i64 0] 3)) (.cells #[.int .i64 0] 32); rw [World.size_alloc, World.size_alloc, World.size_alloc] at h; exact h)
    rw [hV1, ← hz1]
    have HZ1 := Aside0.mk hz1
    clear hV1 hz1
    have HB1 := Aside0.mk hB1
    have hBQ1 : Below w.heap.size w (qbox82 V1 A xs.length c last 1) := HB1.out.trans (qbox82_below _ _ _ _ _ _ HB1.out.size)
    have HBQ1 := Aside0.mk hBQ1
    have HQ1 := qbox82_cells V1 A xs.length c last 1
    have HS1 := Aside0.mk (qbox82_size V1 A xs.length c last 1)
    refine wpIn_rangeFunc_ownG rfl (by omega) (gf := 130) (lb := #[.pointer (some ⟨V1.heap.size, 0, none⟩), .pointer (some ⟨V1.heap.size + 1, 0, none⟩)]) rfl trivial (enters_of Try.func130 (by kernel_rfl) rfl)
      (in82_stops Fence.wide 4 trivial rfl (by omega) V1.heap.size (V1.heap.size + 1) w.heap.size A c xs 1 hbig _ (by rw [HS1.out]; omega) (by rw [HS1.out]; omega) (by rw [HS1.out]; have := HB1.out.size; omega) HQ1.1 HQ1.2.2 (fun W' hb => Kd.C_below HC.out (HBQ1.out.trans hb))) KpB.trans (kpB_b (by rw [HS1.out]; have := HB1.out.size; omega) (by rw [HS1.out]; omega)) (Below.refl _ _) (fun _ => rfl)
      (fun pre W => ((∀ j ∈ pre, hit82 xs h j.val = false) ∧ W.heap[w.heap.size]? = some (.cells #[.slice A xs.length c, .int .i64 last] 24 (0, 0)) ∧ W.heap[w.heap.size + 1]? = some (.cells #[.int .i64 h] 3 (0, 0)) ∧ W.heap[w.heap.size + 1 + 1]? = some (.cells #[.int .i64 0] 3 (0, 0)) ∧ W.heap[w.heap.size + 1 + 1 + 1]? = some (.cells #[.int .i64 0] 32 (0, 0))) ∧ (Below w.heap.size w W ∧ True))
      (fun c' pre W => (c' = .ret ∧ ∃ (p : List (Fin xs.length)) (x : Fin xs.length), pre = p ++ [x] ∧ (∀ j ∈ p, hit82 xs h j.val = false) ∧ hit82 xs h x.val = true ∧ W.heap[w.heap.size + 1 + 1]? = some (.cells #[.int .i64 (x.val : Int)] 3 (0, 0)) ∧ W.heap[w.heap.size + 1 + 1 + 1]? = some (.cells #[.int .i64 0] 32 (0, 0))) ∧ (Below w.heap.size w W ∧ True))
      (OwnFrom.and (Own.from (fun s A B row hs hg hr => ⟨hs.1, blk_own82 hs.2.1 hg hr, blk_own82 hs.2.2.1 hg hr, blk_own82 hs.2.2.2.1 hg hr, blk_own82 hs.2.2.2.2 hg hr⟩) _) (OwnFrom.and (ownFrom_below (Nat.le_refl _) (by rw [HS1.out]; have := HB1.out.size; omega)) (fun _ _ _ _ h _ _ => h)))
      (fun c => OwnFrom.and (Own.from (fun s A B row hs hg hr => by obtain ⟨h1, p, x, h2, h3, h4, h5, h6⟩ := hs; exact ⟨h1, p, x, h2, h3, h4, blk_own82 h5 hg hr, blk_own82 h6 hg hr⟩) _) (OwnFrom.and (ownFrom_below (Nat.le_refl _) (by rw [HS1.out]; have := HB1.out.size; omega)) (fun _ _ _ _ h _ _ => h)))
      ⟨⟨fun j hj => by simp at hj, blk_alloc (blk_alloc B2_1.out _) _, blk_alloc (blk_alloc B3_1.out _) _, blk_alloc (blk_alloc B4_1.out _) _, blk_alloc (blk_alloc B5_1.out _) _⟩, HBQ1.out, trivial⟩
      (fun x => { tmps := #[.agg #[.slice A xs.length c, .int .i64 last], .int .i64 h, .pointer (some ⟨w.heap.size, 0, none⟩), .pointer (some ⟨w.heap.size + 1, 0, none⟩), .pointer (some ⟨w.heap.size + 1 + 1, 0, none⟩), .pointer (some ⟨w.heap.size + 1 + 1 + 1, 0, none⟩), undef, .int .i64 1, .int .i64 (x.val : Int), .int .i64 h, .bool false, .agg #[.int .i64 1, .int .i64 2], .int .i64 0, .bool true, .int .i64 1, .agg #[.slice A xs.length c, .int .i64 last], .int .i64 1, .func (.func 130) #[] #[.pointer (some ⟨V1.heap.size, 0, none⟩), .pointer (some ⟨V1.heap.size + 1, 0, none⟩)], .int .i64 (x.val : Int), undef, undef, undef, undef, undef, undef, undef, undef, undef, undef, undef, undef], defers := [] }) ?assign ?body ?done ?stop
    case assign =>
      intro l x W K hK
      gi_wp2
      exact hK
    case body =>
      rintro l pre x W ⟨⟨hno, q2, q3, q4, q5⟩, hB, hX⟩ _
      have hCW := Kd.C_below HC.out hB
      obtain ⟨ad, eA, hcx, hcy, hc2, hc3, hc4, hc5, hc6, hc7⟩ := at_TR hCW (x.val : Int) (by omega) (by have := x.isLt; omega)
      cases eA
      rw [Int.toNat_natCast] at hcx hcy hc2 hc3 hc4 hc5 hc6 hc7
      have hxl := x.isLt
      obtain ⟨y0, hy0⟩ : ∃ y0 : SR, y0 = xs.getD x.val zR := ⟨_, rfl⟩
      have hxv : rd_TR xs (x.val : Int) = y0 := by unfold rd_TR; rw [Int.toNat_natCast, hy0]
      rw [hxv] at hcx hcy hc2 hc3 hc4 hc5 hc6 hc7
      have a20 := (blk_cell q2 0).trans rfl
      have a30 := (blk_cell q3 0).trans rfl
      have a40 := (blk_cell q4 0).trans rfl
      have a50 := (blk_cell q5 0).trans rfl
      have f40 := blk_frozen q4 0
      have f50 := blk_frozen q5 0
      have HH : ∀ b, (pk (x.val : Int) y0.f1 == h) = b → hit82 xs h x.val = b := fun b e => by unfold hit82; rw [← hy0]; exact e
      have HHA := Aside0.mk HH
      have Q2 := Aside0.mk q2
      have Q3 := Aside0.mk q3
      have Q4 := Aside0.mk q4
      have Q5 := Aside0.mk q5
      have HBW := Aside0.mk hB
      have HNO := Aside0.mk hno
      have hmx : Try.prog.follows .mixedOrders = true := by kernel_rfl
      have hdd : 1 ≤ 5 - 1 - 1 := by omega
      clear HH q2 q3 q4 q5 hB hno hCW hy0 hxv hcx hc2 hc3 hc4 hc5 hc6 hc7 HQ1
      cases hh : (pk (x.val : Int) y0.f1 == h) with
      | true =>
        gi_wp2
        refine region_round rfl l (by kernel_rfl) hmx ?_
        simp only [List.size_toArray, List.length_cons, List.length_nil, Nat.reduceAdd, Array.replicate_succ, Array.replicate_zero, List.push_toArray, List.append_toArray, List.nil_append, List.cons_append]
        refine wpAnyIn_take (i := 0) (v := ?_) rfl rfl (by kernel_rfl) (by kernel_rfl) (by kernel_rfl) (fun _ _ _ h => h) ⟨Or.inl ⟨by rfl, ?_⟩, fun _ => rfl⟩ ?_
        rotate_left
        · (intro w; go_simp; with_reducible rfl)
        refine wpAnyIn_take (i := 1) (v := ?_) rfl rfl (by kernel_rfl) (by kernel_rfl) (by kernel_rfl) (fun _ _ _ h => h) ⟨Or.inl ⟨by rfl, ?_⟩, fun _ => rfl⟩ ?_
        rotate_left
        · (intro w; go_simp; with_reducible rfl)
        refine wpAnyIn_take (i := 3) (v := ?_) rfl rfl (by kernel_rfl) (by kernel_rfl) (by kernel_rfl) (fun _ _ _ h => h) ⟨Or.inl ⟨by rfl, ?_⟩, fun _ => rfl⟩ ?_
        rotate_left
        · (intro w; go_simp; with_reducible rfl)
        refine wpAnyIn_ready (rs := [2, 8]) (by kernel_rfl) (by simp) ?_
        refine AllReadyIn.cons rfl (fun K hK => ?_) ?_
        rotate_left
        refine AllReadyIn.cons rfl (fun K hK => ?_) ?_
        rotate_left
        exact AllReadyIn.nil
        · go_simp
          try (refine hK _ _ ?_; clear hK K)
          refine wpAnyIn_ready (rs := [4, 8]) (by kernel_rfl) (by simp) ?_
          refine AllReadyIn.cons rfl (fun K hK => ?_) ?_
          rotate_left
          refine AllReadyIn.cons rfl (fun K hK => ?_) ?_
          rotate_left
          exact AllReadyIn.nil
          · go_simp
            try (refine hK _ _ ?_; clear hK K)
            refine wpAnyIn_take (i := 5) (v := ?_) rfl rfl (by kernel_rfl) (by kernel_rfl) (by kernel_rfl) (fun _ _ _ h => h) ⟨Or.inl ⟨by rfl, ?_⟩, fun _ => rfl⟩ ?_
            rotate_left
            · (intro w; go_simp; with_reducible rfl)
            refine wpAnyIn_ready (rs := [6, 8]) (by kernel_rfl) (by simp) ?_
            refine AllReadyIn.cons rfl (fun K hK => ?_) ?_
            rotate_left
            refine AllReadyIn.cons rfl (fun K hK => ?_) ?_
            rotate_left
            exact AllReadyIn.nil
            · go_simp
              try (refine hK _ _ ?_; clear hK K)
              refine wpAnyIn_ready (rs := [7, 8]) (by kernel_rfl) (by simp) ?_
              refine AllReadyIn.cons rfl (fun K hK => ?_) ?_
              rotate_left
              refine AllReadyIn.cons rfl (fun K hK => ?_) ?_
              rotate_left
              exact AllReadyIn.nil
              · go_simp
                gi_wp2_with (refine ⟨trivial, ?_⟩; gi_at_call 69; refine (callsIn_wide.2 (pack_c _ _ _)).mono ?_; rintro e w' ⟨rfl, rfl⟩)
                try (refine hK _ _ ?_; clear hK K)
                refine wpAnyIn_ready (rs := [8]) (by kernel_rfl) (by simp) ?_
                refine AllReadyIn.cons rfl (fun K hK => ?_) ?_
                rotate_left
                exact AllReadyIn.nil
                go_simp
                try (refine hK _ _ ?_; clear hK K)
                refine wpAnyIn_ready (rs := [9]) (by kernel_rfl) (by simp) ?_
                refine AllReadyIn.cons rfl (fun K hK => ?_) ?_
                rotate_left
                exact AllReadyIn.nil
                go_simp
                try (refine hK _ _ ?_; clear hK K)
                refine wpAnyIn_done (by kernel_rfl) ?_ _
                gi_wp2
                exact ⟨(((KeepsOthers.setCell _ _ _).trans (KeepsOthers.setCell _ _ _)).trans (KeepsOthers.drew _)).from _, ⟨rfl, pre, x, rfl, HNO.out, HHA.out _ hh, blk_drew ((Below.heap_setCell _ _ _ _ (by dsimp only; omega)).trans (blk_put (cs := #[.int .i64 0]) Q4.out 0 _ rfl)), blk_drew (blk_put (cs := #[.int .i64 0]) ((Below.heap_setCell _ _ _ _ (by dsimp only; omega)).trans Q5.out) 0 _ rfl)⟩, below_drew ((HBW.out.setCell (p := ⟨w.heap.size + 1 + 1, 0, none⟩) (by dsimp only; omega) _).setCell (p := ⟨w.heap.size + 1 + 1 + 1, 0, none⟩) (by dsimp only; omega) _), trivial⟩
              · go_simp
                try (refine hK _ _ ?_; clear hK K)
                refine wpAnyIn_ready (rs := [7]) (by kernel_rfl) (by simp) ?_
                refine AllReadyIn.cons rfl (fun K hK => ?_) ?_
                rotate_left
                exact AllReadyIn.nil
                go_simp
                gi_wp2_with (refine ⟨trivial, ?_⟩; gi_at_call 69; refine (callsIn_wide.2 (pack_c _ _ _)).mono ?_; rintro e w' ⟨rfl, rfl⟩)
                try (refine hK _ _ ?_; clear hK K)
                refine wpAnyIn_ready (rs := [9]) (by kernel_rfl) (by simp) ?_
                refine AllReadyIn.cons rfl (fun K hK => ?_) ?_
                rotate_left
                exact AllReadyIn.nil
                go_simp
                try (refine hK _ _ ?_; clear hK K)
                refine wpAnyIn_done (by kernel_rfl) ?_ _
                gi_wp2
                exact ⟨(((KeepsOthers.setCell _ _ _).trans (KeepsOthers.setCell _ _ _)).trans (KeepsOthers.drew _)).from _, ⟨rfl, pre, x, rfl, HNO.out, HHA.out _ hh, blk_drew ((Below.heap_setCell _ _ _ _ (by dsimp only; omega)).trans (blk_put (cs := #[.int .i64 0]) Q4.out 0 _ rfl)), blk_drew (blk_put (cs := #[.int .i64 0]) ((Below.heap_setCell _ _ _ _ (by dsimp only; omega)).trans Q5.out) 0 _ rfl)⟩, below_drew ((HBW.out.setCell (p := ⟨w.heap.size + 1 + 1, 0, none⟩) (by dsimp only; omega) _).setCell (p := ⟨w.heap.size + 1 + 1 + 1, 0, none⟩) (by dsimp only; omega) _), trivial⟩
            · go_simp
              try (refine hK _ _ ?_; clear hK K)
              refine wpAnyIn_ready (rs := [6]) (by kernel_rfl) (by simp) ?_
              refine AllReadyIn.cons rfl (fun K hK => ?_) ?_
              rotate_left
              exact AllReadyIn.nil
              go_simp
              try (refine hK _ _ ?_; clear hK K)
              refine wpAnyIn_ready (rs := [7]) (by kernel_rfl) (by simp) ?_
              refine AllReadyIn.cons rfl (fun K hK => ?_) ?_
              rotate_left
              exact AllReadyIn.nil
              go_simp
              gi_wp2_with (refine ⟨trivial, ?_⟩; gi_at_call 69; refine (callsIn_wide.2 (pack_c _ _ _)).mono ?_; rintro e w' ⟨rfl, rfl⟩)
              try (refine hK _ _ ?_; clear hK K)
              refine wpAnyIn_ready (rs := [9]) (by kernel_rfl) (by simp) ?_
              refine AllReadyIn.cons rfl (fun K hK => ?_) ?_
              rotate_left
              exact AllReadyIn.nil
              go_simp
              try (refine hK _ _ ?_; clear hK K)
              refine wpAnyIn_done (by kernel_rfl) ?_ _
              gi_wp2
              exact ⟨(((KeepsOthers.setCell _ _ _).trans (KeepsOthers.setCell _ _ _)).trans (KeepsOthers.drew _)).from _, ⟨rfl, pre, x, rfl, HNO.out, HHA.out _ hh, blk_drew ((Below.heap_setCell _ _ _ _ (by dsimp only; omega)).trans (blk_put (cs := #[.int .i64 0]) Q4.out 0 _ rfl)), blk_drew (blk_put (cs := #[.int .i64 0]) ((Below.heap_setCell _ _ _ _ (by dsimp only; omega)).trans Q5.out) 0 _ rfl)⟩, below_drew ((HBW.out.setCell (p := ⟨w.heap.size + 1 + 1, 0, none⟩) (by dsimp only; omega) _).setCell (p := ⟨w.heap.size + 1 + 1 + 1, 0, none⟩) (by dsimp only; omega) _), trivial⟩
          · go_simp
            try (refine hK _ _ ?_; clear hK K)
            refine wpAnyIn_ready (rs := [4]) (by kernel_rfl) (by simp) ?_
            refine AllReadyIn.cons rfl (fun K hK => ?_) ?_
            rotate_left
            exact AllReadyIn.nil
            go_simp
            try (refine hK _ _ ?_; clear hK K)
            refine wpAnyIn_take (i := 5) (v := ?_) rfl rfl (by kernel_rfl) (by kernel_rfl) (by kernel_rfl) (fun _ _ _ h => h) ⟨Or.inl ⟨by rfl, ?_⟩, fun _ => rfl⟩ ?_
            rotate_left
            · (intro w; go_simp; with_reducible rfl)
            refine wpAnyIn_ready (rs := [6]) (by kernel_rfl) (by simp) ?_
            refine AllReadyIn.cons rfl (fun K hK => ?_) ?_
            rotate_left
            exact AllReadyIn.nil
            go_simp
            try (refine hK _ _ ?_; clear hK K)
            refine wpAnyIn_ready (rs := [7]) (by kernel_rfl) (by simp) ?_
            refine AllReadyIn.cons rfl (fun K hK => ?_) ?_
            rotate_left
            exact AllReadyIn.nil
            go_simp
            gi_wp2_with (refine ⟨trivial, ?_⟩; gi_at_call 69; refine (callsIn_wide.2 (pack_c _ _ _)).mono ?_; rintro e w' ⟨rfl, rfl⟩)
            try (refine hK _ _ ?_; clear hK K)
            refine wpAnyIn_ready (rs := [9]) (by kernel_rfl) (by simp) ?_
            refine AllReadyIn.cons rfl (fun K hK => ?_) ?_
            rotate_left
            exact AllReadyIn.nil
            go_simp
            try (refine hK _ _ ?_; clear hK K)
            refine wpAnyIn_done (by kernel_rfl) ?_ _
            gi_wp2
            exact ⟨(((KeepsOthers.setCell _ _ _).trans (KeepsOthers.setCell _ _ _)).trans (KeepsOthers.drew _)).from _, ⟨rfl, pre, x, rfl, HNO.out, HHA.out _ hh, blk_drew ((Below.heap_setCell _ _ _ _ (by dsimp only; omega)).trans (blk_put (cs := #[.int .i64 0]) Q4.out 0 _ rfl)), blk_drew (blk_put (cs := #[.int .i64 0]) ((Below.heap_setCell _ _ _ _ (by dsimp only; omega)).trans Q5.out) 0 _ rfl)⟩, below_drew ((HBW.out.setCell (p := ⟨w.heap.size + 1 + 1, 0, none⟩) (by dsimp only; omega) _).setCell (p := ⟨w.heap.size + 1 + 1 + 1, 0, none⟩) (by dsimp only; omega) _), trivial⟩
        · go_simp
          try (refine hK _ _ ?_; clear hK K)
          refine wpAnyIn_ready (rs := [2]) (by kernel_rfl) (by simp) ?_
          refine AllReadyIn.cons rfl (fun K hK => ?_) ?_
          rotate_left
          exact AllReadyIn.nil
          go_simp
          try (refine hK _ _ ?_; clear hK K)
          refine wpAnyIn_ready (rs := [4]) (by kernel_rfl) (by simp) ?_
          refine AllReadyIn.cons rfl (fun K hK => ?_) ?_
          rotate_left
          exact AllReadyIn.nil
          go_simp
          try (refine hK _ _ ?_; clear hK K)
          refine wpAnyIn_take (i := 5) (v := ?_) rfl rfl (by kernel_rfl) (by kernel_rfl) (by kernel_rfl) (fun _ _ _ h => h) ⟨Or.inl ⟨by rfl, ?_⟩, fun _ => rfl⟩ ?_
          rotate_left
          · (intro w; go_simp; with_reducible rfl)
          refine wpAnyIn_ready (rs := [6]) (by kernel_rfl) (by simp) ?_
          refine AllReadyIn.cons rfl (fun K hK => ?_) ?_
          rotate_left
          exact AllReadyIn.nil
          go_simp
          try (refine hK _ _ ?_; clear hK K)
          refine wpAnyIn_ready (rs := [7]) (by kernel_rfl) (by simp) ?_
          refine AllReadyIn.cons rfl (fun K hK => ?_) ?_
          rotate_left
          exact AllReadyIn.nil
          go_simp
          gi_wp2_with (refine ⟨trivial, ?_⟩; gi_at_call 69; refine (callsIn_wide.2 (pack_c _ _ _)).mono ?_; rintro e w' ⟨rfl, rfl⟩)
          try (refine hK _ _ ?_; clear hK K)
          refine wpAnyIn_ready (rs := [9]) (by kernel_rfl) (by simp) ?_
          refine AllReadyIn.cons rfl (fun K hK => ?_) ?_
          rotate_left
          exact AllReadyIn.nil
          go_simp
          try (refine hK _ _ ?_; clear hK K)
          refine wpAnyIn_done (by kernel_rfl) ?_ _
          gi_wp2
          exact ⟨(((KeepsOthers.setCell _ _ _).trans (KeepsOthers.setCell _ _ _)).trans (KeepsOthers.drew _)).from _, ⟨rfl, pre, x, rfl, HNO.out, HHA.out _ hh, blk_drew ((Below.heap_setCell _ _ _ _ (by dsimp only; omega)).trans (blk_put (cs := #[.int .i64 0]) Q4.out 0 _ rfl)), blk_drew (blk_put (cs := #[.int .i64 0]) ((Below.heap_setCell _ _ _ _ (by dsimp only; omega)).trans Q5.out) 0 _ rfl)⟩, below_drew ((HBW.out.setCell (p := ⟨w.heap.size + 1 + 1, 0, none⟩) (by dsimp only; omega) _).setCell (p := ⟨w.heap.size + 1 + 1 + 1, 0, none⟩) (by dsimp only; omega) _), trivial⟩
      | false =>
        gi_wp2
        refine region_round rfl l (by kernel_rfl) hmx ?_
        simp only [List.size_toArray, List.length_cons, List.length_nil, Nat.reduceAdd, Array.replicate_succ, Array.replicate_zero, List.push_toArray, List.append_toArray, List.nil_append, List.cons_append]
        refine wpAnyIn_take (i := 0) (v := ?_) rfl rfl (by kernel_rfl) (by kernel_rfl) (by kernel_rfl) (fun _ _ _ h => h) ⟨Or.inl ⟨by rfl, ?_⟩, fun _ => rfl⟩ ?_
        rotate_left
        · (intro w; go_simp; with_reducible rfl)
        refine wpAnyIn_take (i := 1) (v := ?_) rfl rfl (by kernel_rfl) (by kernel_rfl) (by kernel_rfl) (fun _ _ _ h => h) ⟨Or.inl ⟨by rfl, ?_⟩, fun _ => rfl⟩ ?_
        rotate_left
        · (intro w; go_simp; with_reducible rfl)
        refine wpAnyIn_take (i := 3) (v := ?_) rfl rfl (by kernel_rfl) (by kernel_rfl) (by kernel_rfl) (fun _ _ _ h => h) ⟨Or.inl ⟨by rfl, ?_⟩, fun _ => rfl⟩ ?_
        rotate_left
        · (intro w; go_simp; with_reducible rfl)
        refine wpAnyIn_ready (rs := [2, 8]) (by kernel_rfl) (by simp) ?_
        refine AllReadyIn.cons rfl (fun K hK => ?_) ?_
        rotate_left
        refine AllReadyIn.cons rfl (fun K hK => ?_) ?_
        rotate_left
        exact AllReadyIn.nil
        · go_simp
          try (refine hK _ _ ?_; clear hK K)
          refine wpAnyIn_ready (rs := [4, 8]) (by kernel_rfl) (by simp) ?_
          refine AllReadyIn.cons rfl (fun K hK => ?_) ?_
          rotate_left
          refine AllReadyIn.cons rfl (fun K hK => ?_) ?_
          rotate_left
          exact AllReadyIn.nil
          · go_simp
            try (refine hK _ _ ?_; clear hK K)
            refine wpAnyIn_take (i := 5) (v := ?_) rfl rfl (by kernel_rfl) (by kernel_rfl) (by kernel_rfl) (fun _ _ _ h => h) ⟨Or.inl ⟨by rfl, ?_⟩, fun _ => rfl⟩ ?_
            rotate_left
            · (intro w; go_simp; with_reducible rfl)
            refine wpAnyIn_ready (rs := [6, 8]) (by kernel_rfl) (by simp) ?_
            refine AllReadyIn.cons rfl (fun K hK => ?_) ?_
            rotate_left
            refine AllReadyIn.cons rfl (fun K hK => ?_) ?_
            rotate_left
            exact AllReadyIn.nil
            · go_simp
              try (refine hK _ _ ?_; clear hK K)
              refine wpAnyIn_ready (rs := [7, 8]) (by kernel_rfl) (by simp) ?_
              refine AllReadyIn.cons rfl (fun K hK => ?_) ?_
              rotate_left
              refine AllReadyIn.cons rfl (fun K hK => ?_) ?_
              rotate_left
              exact AllReadyIn.nil
              · go_simp
                gi_wp2_with (refine ⟨trivial, ?_⟩; gi_at_call 69; refine (callsIn_wide.2 (pack_c _ _ _)).mono ?_; rintro e w' ⟨rfl, rfl⟩)
                try (refine hK _ _ ?_; clear hK K)
                refine wpAnyIn_ready (rs := [8]) (by kernel_rfl) (by simp) ?_
                refine AllReadyIn.cons rfl (fun K hK => ?_) ?_
                rotate_left
                exact AllReadyIn.nil
                go_simp
                try (refine hK _ _ ?_; clear hK K)
                refine wpAnyIn_ready (rs := [9]) (by kernel_rfl) (by simp) ?_
                refine AllReadyIn.cons rfl (fun K hK => ?_) ?_
                rotate_left
                exact AllReadyIn.nil
                go_simp
                try (refine hK _ _ ?_; clear hK K)
                refine wpAnyIn_done (by kernel_rfl) ?_ _
                gi_wp2
                exact ⟨(KeepsOthers.drew _).from _, ⟨below_drew (Below.refl _ _), rfl⟩, ⟨fun j hj => by rcases List.mem_append.1 hj with hj | hj; exact HNO.out j hj; obtain rfl : j = x := (by simpa using hj); exact HHA.out _ hh, blk_drew Q2.out, blk_drew Q3.out, blk_drew Q4.out, blk_drew Q5.out⟩, below_drew HBW.out, trivial⟩
              · go_simp
                try (refine hK _ _ ?_; clear hK K)
                refine wpAnyIn_ready (rs := [7]) (by kernel_rfl) (by simp) ?_
                refine AllReadyIn.cons rfl (fun K hK => ?_) ?_
                rotate_left
                exact AllReadyIn.nil
                go_simp
                gi_wp2_with (refine ⟨trivial, ?_⟩; gi_at_call 69; refine (callsIn_wide.2 (pack_c _ _ _)).mono ?_; rintro e w' ⟨rfl, rfl⟩)
                try (refine hK _ _ ?_; clear hK K)
                refine wpAnyIn_ready (rs := [9]) (by kernel_rfl) (by simp) ?_
                refine AllReadyIn.cons rfl (fun K hK => ?_) ?_
                rotate_left
                exact AllReadyIn.nil
                go_simp
                try (refine hK _ _ ?_; clear hK K)
                refine wpAnyIn_done (by kernel_rfl) ?_ _
                gi_wp2
                exact ⟨(KeepsOthers.drew _).from _, ⟨below_drew (Below.refl _ _), rfl⟩, ⟨fun j hj => by rcases List.mem_append.1 hj with hj | hj; exact HNO.out j hj; obtain rfl : j = x := (by simpa using hj); exact HHA.out _ hh, blk_drew Q2.out, blk_drew Q3.out, blk_drew Q4.out, blk_drew Q5.out⟩, below_drew HBW.out, trivial⟩
            · go_simp
              try (refine hK _ _ ?_; clear hK K)
              refine wpAnyIn_ready (rs := [6]) (by kernel_rfl) (by simp) ?_
              refine AllReadyIn.cons rfl (fun K hK => ?_) ?_
              rotate_left
              exact AllReadyIn.nil
              go_simp
              try (refine hK _ _ ?_; clear hK K)
              refine wpAnyIn_ready (rs := [7]) (by kernel_rfl) (by simp) ?_
              refine AllReadyIn.cons rfl (fun K hK => ?_) ?_
              rotate_left
              exact AllReadyIn.nil
              go_simp
              gi_wp2_with (refine ⟨trivial, ?_⟩; gi_at_call 69; refine (callsIn_wide.2 (pack_c _ _ _)).mono ?_; rintro e w' ⟨rfl, rfl⟩)
              try (refine hK _ _ ?_; clear hK K)
              refine wpAnyIn_ready (rs := [9]) (by kernel_rfl) (by simp) ?_
              refine AllReadyIn.cons rfl (fun K hK => ?_) ?_
              rotate_left
              exact AllReadyIn.nil
              go_simp
              try (refine hK _ _ ?_; clear hK K)
              refine wpAnyIn_done (by kernel_rfl) ?_ _
              gi_wp2
              exact ⟨(KeepsOthers.drew _).from _, ⟨below_drew (Below.refl _ _), rfl⟩, ⟨fun j hj => by rcases List.mem_append.1 hj with hj | hj; exact HNO.out j hj; obtain rfl : j = x := (by simpa using hj); exact HHA.out _ hh, blk_drew Q2.out, blk_drew Q3.out, blk_drew Q4.out, blk_drew Q5.out⟩, below_drew HBW.out, trivial⟩
          · go_simp
            try (refine hK _ _ ?_; clear hK K)
            refine wpAnyIn_ready (rs := [4]) (by kernel_rfl) (by simp) ?_
            refine AllReadyIn.cons rfl (fun K hK => ?_) ?_
            rotate_left
            exact AllReadyIn.nil
            go_simp
            try (refine hK _ _ ?_; clear hK K)
            refine wpAnyIn_take (i := 5) (v := ?_) rfl rfl (by kernel_rfl) (by kernel_rfl) (by kernel_rfl) (fun _ _ _ h => h) ⟨Or.inl ⟨by rfl, ?_⟩, fun _ => rfl⟩ ?_
            rotate_left
            · (intro w; go_simp; with_reducible rfl)
            refine wpAnyIn_ready (rs := [6]) (by kernel_rfl) (by simp) ?_
            refine AllReadyIn.cons rfl (fun K hK => ?_) ?_
            rotate_left
            exact AllReadyIn.nil
            go_simp
            try (refine hK _ _ ?_; clear hK K)
            refine wpAnyIn_ready (rs := [7]) (by kernel_rfl) (by simp) ?_
            refine AllReadyIn.cons rfl (fun K hK => ?_) ?_
            rotate_left
            exact AllReadyIn.nil
            go_simp
            gi_wp2_with (refine ⟨trivial, ?_⟩; gi_at_call 69; refine (callsIn_wide.2 (pack_c _ _ _)).mono ?_; rintro e w' ⟨rfl, rfl⟩)
            try (refine hK _ _ ?_; clear hK K)
            refine wpAnyIn_ready (rs := [9]) (by kernel_rfl) (by simp) ?_
            refine AllReadyIn.cons rfl (fun K hK => ?_) ?_
            rotate_left
            exact AllReadyIn.nil
            go_simp
            try (refine hK _ _ ?_; clear hK K)
            refine wpAnyIn_done (by kernel_rfl) ?_ _
            gi_wp2
            exact ⟨(KeepsOthers.drew _).from _, ⟨below_drew (Below.refl _ _), rfl⟩, ⟨fun j hj => by rcases List.mem_append.1 hj with hj | hj; exact HNO.out j hj; obtain rfl : j = x := (by simpa using hj); exact HHA.out _ hh, blk_drew Q2.out, blk_drew Q3.out, blk_drew Q4.out, blk_drew Q5.out⟩, below_drew HBW.out, trivial⟩
        · go_simp
          try (refine hK _ _ ?_; clear hK K)
          refine wpAnyIn_ready (rs := [2]) (by kernel_rfl) (by simp) ?_
          refine AllReadyIn.cons rfl (fun K hK => ?_) ?_
          rotate_left
          exact AllReadyIn.nil
          go_simp
          try (refine hK _ _ ?_; clear hK K)
          refine wpAnyIn_ready (rs := [4]) (by kernel_rfl) (by simp) ?_
          refine AllReadyIn.cons rfl (fun K hK => ?_) ?_
          rotate_left
          exact AllReadyIn.nil
          go_simp
          try (refine hK _ _ ?_; clear hK K)
          refine wpAnyIn_take (i := 5) (v := ?_) rfl rfl (by kernel_rfl) (by kernel_rfl) (by kernel_rfl) (fun _ _ _ h => h) ⟨Or.inl ⟨by rfl, ?_⟩, fun _ => rfl⟩ ?_
          rotate_left
          · (intro w; go_simp; with_reducible rfl)
          refine wpAnyIn_ready (rs := [6]) (by kernel_rfl) (by simp) ?_
          refine AllReadyIn.cons rfl (fun K hK => ?_) ?_
          rotate_left
          exact AllReadyIn.nil
          go_simp
          try (refine hK _ _ ?_; clear hK K)
          refine wpAnyIn_ready (rs := [7]) (by kernel_rfl) (by simp) ?_
          refine AllReadyIn.cons rfl (fun K hK => ?_) ?_
          rotate_left
          exact AllReadyIn.nil
          go_simp
          gi_wp2_with (refine ⟨trivial, ?_⟩; gi_at_call 69; refine (callsIn_wide.2 (pack_c _ _ _)).mono ?_; rintro e w' ⟨rfl, rfl⟩)
          try (refine hK _ _ ?_; clear hK K)
          refine wpAnyIn_ready (rs := [9]) (by kernel_rfl) (by simp) ?_
          refine AllReadyIn.cons rfl (fun K hK => ?_) ?_
          rotate_left
          exact AllReadyIn.nil
          go_simp
          try (refine hK _ _ ?_; clear hK K)
          refine wpAnyIn_done (by kernel_rfl) ?_ _
          gi_wp2
          exact ⟨(KeepsOthers.drew _).from _, ⟨below_drew (Below.refl _ _), rfl⟩, ⟨fun j hj => by rcases List.mem_append.1 hj with hj | hj; exact HNO.out j hj; obtain rfl : j = x := (by simpa using hj); exact HHA.out _ hh, blk_drew Q2.out, blk_drew Q3.out, blk_drew Q4.out, blk_drew Q5.out⟩, below_drew HBW.out, trivial⟩
    case stop =>
      rintro D c' pre W hD hpre ⟨⟨rfl, p, x, rfl, hno, hit, q4, q5⟩, hB, hX⟩ hK
      have E0 := Aside0.mk (fnd_a82 hz (fd_some82 hpre hno hit))
      have Q4 := Aside0.mk q4
      have Q5 := Aside0.mk q5
      have HK2 := Aside0.mk hK
      have HX1 := Aside0.mk hX
      have HDM := Aside0.mk hD
      have HB3 := Aside0.mk hB
      clear q4 q5 hK hX hD hB hno hpre
      gi_wp2
      have hk := HK2.out
      have hr : ∀ r, some D = some r → ∃ o : Obj, W.heap[r]? = some o ∧ o.isCells = false := fun r e => by cases e; exact ⟨_, hk, rfl⟩
      have e4 := blk_own82 Q4.out (grownBy_putObj' _ D (.deferred none)) hr
      have e5 := blk_own82 Q5.out (grownBy_putObj' _ D (.deferred none)) hr
      have hb1 := (HB3.out).trans (belowK_b (w := w) (Nat.le_refl _) W D _ (.deferred none) (by have h1 := HDM.out; rw [HS1.out] at h1; have h2 := HB1.out.size; omega) hk rfl rfl)
      refine ⟨by simp, .inl ⟨_, _, rfl, run_takeDeferred hk, ?_⟩⟩
      exact ⟨_, results_find82 _ _ _ _ _ _ rfl rfl e4 e5, by rw [E0.out], hb1⟩
    case done =>
      rintro D1 ys V2 hD hys ⟨⟨hno, q2, q3, q4, q5⟩, hB, hX⟩ hK
      have HN1 := Aside0.mk (fd_none82 hys hno)
      have HK1 := Aside0.mk hK
      have HD1 := Aside0.mk (blk_lt hK)
      have HDL := Aside0.mk hD
      have hB2 := hB
      have B2_2 := Aside0.mk q2
      have B3_2 := Aside0.mk q3
      have B4_2 := Aside0.mk q4
      have B5_2 := Aside0.mk q5
      have a20 := (blk_cell q2 0).trans rfl
      have a21 := (blk_cell q2 1).trans rfl
      clear q2 q3 q4 q5 hK hD hys hno hX HQ1
      gi_wp2
      rw [roundsIn_succ]
      gi_wp2_with (refine ⟨trivial, ?_⟩; gi_at_call 103; refine (callsIn_wide.2 (in82_c _ _ _ _ _ _)).mono ?_; rintro e w' ⟨rfl, rfl⟩)
      have HB2 := Aside0.mk hB2
      have hBQ2 : Below w.heap.size w (qbox82 V2 A xs.length c last 2) := HB2.out.trans (qbox82_below _ _ _ _ _ _ HB2.out.size)
      have HBQ2 := Aside0.mk hBQ2
      have HQ2 := qbox82_cells V2 A xs.length c last 2
      have HS2 := Aside0.mk (qbox82_size V2 A xs.length c last 2)
      refine wpIn_rangeFunc_ownG rfl (by omega) (gf := 130) (lb := #[.pointer (some ⟨V2.heap.size, 0, none⟩), .pointer (some ⟨V2.heap.size + 1, 0, none⟩)]) rfl trivial (enters_of Try.func130 (by kernel_rfl) rfl)
        (in82_stops Fence.wide 4 trivial rfl (by omega) V2.heap.size (V2.heap.size + 1) w.heap.size A c xs 2 hbig _ (by rw [HS2.out]; omega) (by rw [HS2.out]; omega) (by rw [HS2.out]; have := HB2.out.size; omega) HQ2.1 HQ2.2.2 (fun W' hb => Kd.C_below HC.out (HBQ2.out.trans hb))) KpB.trans (kpB_b (by rw [HS2.out]; have := HB2.out.size; omega) (by rw [HS2.out]; omega)) (Below.refl _ _) (fun _ => rfl)
        (fun pre W => ((∀ j ∈ pre, hit82 xs h j.val = false) ∧ W.heap[w.heap.size]? = some (.cells #[.slice A xs.length c, .int .i64 last] 24 (0, 0)) ∧ W.heap[w.heap.size + 1]? = some (.cells #[.int .i64 h] 3 (0, 0)) ∧ W.heap[w.heap.size + 1 + 1]? = some (.cells #[.int .i64 0] 3 (0, 0)) ∧ W.heap[w.heap.size + 1 + 1 + 1]? = some (.cells #[.int .i64 0] 32 (0, 0))) ∧ (Below w.heap.size w W ∧ W.heap[D1]? = some (.deferred (some []))))
        (fun c' pre W => (c' = .ret ∧ ∃ (p : List (Fin xs.length)) (x : Fin xs.length), pre = p ++ [x] ∧ (∀ j ∈ p, hit82 xs h j.val = false) ∧ hit82 xs h x.val = true ∧ W.heap[w.heap.size + 1 + 1]? = some (.cells #[.int .i64 (x.val : Int)] 3 (0, 0)) ∧ W.heap[w.heap.size + 1 + 1 + 1]? = some (.cells #[.int .i64 0] 32 (0, 0))) ∧ (Below w.heap.size w W ∧ W.heap[D1]? = some (.deferred (some []))))
        (OwnFrom.and (Own.from (fun s A B row hs hg hr => ⟨hs.1, blk_own82 hs.2.1 hg hr, blk_own82 hs.2.2.1 hg hr, blk_own82 hs.2.2.2.1 hg hr, blk_own82 hs.2.2.2.2 hg hr⟩) _) (OwnFrom.and (ownFrom_below (Nat.le_refl _) (by rw [HS2.out]; have := HB2.out.size; omega)) (fun s W W' row hs hg hr => (hg.block D1 (blk_lt hs) (fun e => by have := (hr D1 e.symm).1; rw [HS2.out] at this; have := HD1.out; omega)).trans hs)))
        (fun c => OwnFrom.and (Own.from (fun s A B row hs hg hr => by obtain ⟨h1, p, x, h2, h3, h4, h5, h6⟩ := hs; exact ⟨h1, p, x, h2, h3, h4, blk_own82 h5 hg hr, blk_own82 h6 hg hr⟩) _) (OwnFrom.and (ownFrom_below (Nat.le_refl _) (by rw [HS2.out]; have := HB2.out.size; omega)) (fun s W W' row hs hg hr => (hg.block D1 (blk_lt hs) (fun e => by have := (hr D1 e.symm).1; rw [HS2.out] at this; have := HD1.out; omega)).trans hs)))
        ⟨⟨fun j hj => by simp at hj, blk_alloc (blk_alloc B2_2.out _) _, blk_alloc (blk_alloc B3_2.out _) _, blk_alloc (blk_alloc B4_2.out _) _, blk_alloc (blk_alloc B5_2.out _) _⟩, HBQ2.out, (blk_alloc (blk_alloc HK1.out _) _)⟩
        (fun x => { tmps := #[.agg #[.slice A xs.length c, .int .i64 last], .int .i64 h, .pointer (some ⟨w.heap.size, 0, none⟩), .pointer (some ⟨w.heap.size + 1, 0, none⟩), .pointer (some ⟨w.heap.size + 1 + 1, 0, none⟩), .pointer (some ⟨w.heap.size + 1 + 1 + 1, 0, none⟩), undef, .int .i64 2, .int .i64 (x.val : Int), .int .i64 h, .bool false, .agg #[.int .i64 1, .int .i64 2], .int .i64 1, .bool true, .int .i64 2, .agg #[.slice A xs.length c, .int .i64 last], .int .i64 2, .func (.func 130) #[] #[.pointer (some ⟨V2.heap.size, 0, none⟩), .pointer (some ⟨V2.heap.size + 1, 0, none⟩)], .int .i64 (x.val : Int), undef, undef, undef, undef, undef, undef, undef, undef, undef, undef, undef, .int .i64 1], defers := [] }) ?assign ?body ?done ?stop
      case assign =>
        intro l x W K hK
        gi_wp2
        exact hK
      case body =>
        rintro l pre x W ⟨⟨hno, q2, q3, q4, q5⟩, hB, hX⟩ _
        have hCW := Kd.C_below HC.out hB
        obtain ⟨ad, eA, hcx, hcy, hc2, hc3, hc4, hc5, hc6, hc7⟩ := at_TR hCW (x.val : Int) (by omega) (by have := x.isLt; omega)
        cases eA
        rw [Int.toNat_natCast] at hcx hcy hc2 hc3 hc4 hc5 hc6 hc7
        have hxl := x.isLt
        obtain ⟨y0, hy0⟩ : ∃ y0 : SR, y0 = xs.getD x.val zR := ⟨_, rfl⟩
        have hxv : rd_TR xs (x.val : Int) = y0 := by unfold rd_TR; rw [Int.toNat_natCast, hy0]
        rw [hxv] at hcx hcy hc2 hc3 hc4 hc5 hc6 hc7
        have a20 := (blk_cell q2 0).trans rfl
        have a30 := (blk_cell q3 0).trans rfl
        have a40 := (blk_cell q4 0).trans rfl
        have a50 := (blk_cell q5 0).trans rfl
        have f40 := blk_frozen q4 0
        have f50 := blk_frozen q5 0
        have HH : ∀ b, (pk (x.val : Int) y0.f1 == h) = b → hit82 xs h x.val = b := fun b e => by unfold hit82; rw [← hy0]; exact e
        have HHA := Aside0.mk HH
        have Q2 := Aside0.mk q2
        have Q3 := Aside0.mk q3
        have Q4 := Aside0.mk q4
        have Q5 := Aside0.mk q5
        have HBW := Aside0.mk hB
        have HNO := Aside0.mk hno
        have hmx : Try.prog.follows .mixedOrders = true := by kernel_rfl
        have hdd : 1 ≤ 5 - 1 - 1 := by omega
        clear HH q2 q3 q4 q5 hB hno hCW hy0 hxv hcx hc2 hc3 hc4 hc5 hc6 hc7 HQ2
        cases hh : (pk (x.val : Int) y0.f1 == h) with
        | true =>
          gi_wp2
          refine region_round rfl l (by kernel_rfl) hmx ?_
          simp only [List.size_toArray, List.length_cons, List.length_nil, Nat.reduceAdd, Array.replicate_succ, Array.replicate_zero, List.push_toArray, List.append_toArray, List.nil_append, List.cons_append]
          refine wpAnyIn_take (i := 0) (v := ?_) rfl rfl (by kernel_rfl) (by kernel_rfl) (by kernel_rfl) (fun _ _ _ h => h) ⟨Or.inl ⟨by rfl, ?_⟩, fun _ => rfl⟩ ?_
          rotate_left
          · (intro w; go_simp; with_reducible rfl)
          refine wpAnyIn_take (i := 1) (v := ?_) rfl rfl (by kernel_rfl) (by kernel_rfl) (by kernel_rfl) (fun _ _ _ h => h) ⟨Or.inl ⟨by rfl, ?_⟩, fun _ => rfl⟩ ?_
          rotate_left
          · (intro w; go_simp; with_reducible rfl)
          refine wpAnyIn_take (i := 3) (v := ?_) rfl rfl (by kernel_rfl) (by kernel_rfl) (by kernel_rfl) (fun _ _ _ h => h) ⟨Or.inl ⟨by rfl, ?_⟩, fun _ => rfl⟩ ?_
          rotate_left
          · (intro w; go_simp; with_reducible rfl)
          refine wpAnyIn_ready (rs := [2, 8]) (by kernel_rfl) (by simp) ?_
          refine AllReadyIn.cons rfl (fun K hK => ?_) ?_
          rotate_left
          refine AllReadyIn.cons rfl (fun K hK => ?_) ?_
          rotate_left
          exact AllReadyIn.nil
          · go_simp
            try (refine hK _ _ ?_; clear hK K)
            refine wpAnyIn_ready (rs := [4, 8]) (by kernel_rfl) (by simp) ?_
            refine AllReadyIn.cons rfl (fun K hK => ?_) ?_
            rotate_left
            refine AllReadyIn.cons rfl (fun K hK => ?_) ?_
            rotate_left
            exact AllReadyIn.nil
            · go_simp
              try (refine hK _ _ ?_; clear hK K)
              refine wpAnyIn_take (i := 5) (v := ?_) rfl rfl (by kernel_rfl) (by kernel_rfl) (by kernel_rfl) (fun _ _ _ h => h) ⟨Or.inl ⟨by rfl, ?_⟩, fun _ => rfl⟩ ?_
              rotate_left
              · (intro w; go_simp; with_reducible rfl)
              refine wpAnyIn_ready (rs := [6, 8]) (by kernel_rfl) (by simp) ?_
              refine AllReadyIn.cons rfl (fun K hK => ?_) ?_
              rotate_left
              refine AllReadyIn.cons rfl (fun K hK => ?_) ?_
              rotate_left
              exact AllReadyIn.nil
              · go_simp
                try (refine hK _ _ ?_; clear hK K)
                refine wpAnyIn_ready (rs := [7, 8]) (by kernel_rfl) (by simp) ?_
                refine AllReadyIn.cons rfl (fun K hK => ?_) ?_
                rotate_left
                refine AllReadyIn.cons rfl (fun K hK => ?_) ?_
                rotate_left
                exact AllReadyIn.nil
                · go_simp
                  gi_wp2_with (refine ⟨trivial, ?_⟩; gi_at_call 69; refine (callsIn_wide.2 (pack_c _ _ _)).mono ?_; rintro e w' ⟨rfl, rfl⟩)
                  try (refine hK _ _ ?_; clear hK K)
                  refine wpAnyIn_ready (rs := [8]) (by kernel_rfl) (by simp) ?_
                  refine AllReadyIn.cons rfl (fun K hK => ?_) ?_
                  rotate_left
                  exact AllReadyIn.nil
                  go_simp
                  try (refine hK _ _ ?_; clear hK K)
                  refine wpAnyIn_ready (rs := [9]) (by kernel_rfl) (by simp) ?_
                  refine AllReadyIn.cons rfl (fun K hK => ?_) ?_
                  rotate_left
                  exact AllReadyIn.nil
                  go_simp
                  try (refine hK _ _ ?_; clear hK K)
                  refine wpAnyIn_done (by kernel_rfl) ?_ _
                  gi_wp2
                  exact ⟨(((KeepsOthers.setCell _ _ _).trans (KeepsOthers.setCell _ _ _)).trans (KeepsOthers.drew _)).from _, ⟨rfl, pre, x, rfl, HNO.out, HHA.out _ hh, blk_drew ((Below.heap_setCell _ _ _ _ (by dsimp only; omega)).trans (blk_put (cs := #[.int .i64 0]) Q4.out 0 _ rfl)), blk_drew (blk_put (cs := #[.int .i64 0]) ((Below.heap_setCell _ _ _ _ (by dsimp only; omega)).trans Q5.out) 0 _ rfl)⟩, below_drew ((HBW.out.setCell (p := ⟨w.heap.size + 1 + 1, 0, none⟩) (by dsimp only; omega) _).setCell (p := ⟨w.heap.size + 1 + 1 + 1, 0, none⟩) (by dsimp only; omega) _), (((KeepsOthers.setCell _ _ _).trans (KeepsOthers.setCell _ _ _)).trans (KeepsOthers.drew _)).same D1 _ hX rfl⟩
                · go_simp
                  try (refine hK _ _ ?_; clear hK K)
                  refine wpAnyIn_ready (rs := [7]) (by kernel_rfl) (by simp) ?_
                  refine AllReadyIn.cons rfl (fun K hK => ?_) ?_
                  rotate_left
                  exact AllReadyIn.nil
                  go_simp
                  gi_wp2_with (refine ⟨trivial, ?_⟩; gi_at_call 69; refine (callsIn_wide.2 (pack_c _ _ _)).mono ?_; rintro e w' ⟨rfl, rfl⟩)
                  try (refine hK _ _ ?_; clear hK K)
                  refine wpAnyIn_ready (rs := [9]) (by kernel_rfl) (by simp) ?_
                  refine AllReadyIn.cons rfl (fun K hK => ?_) ?_
                  rotate_left
                  exact AllReadyIn.nil
                  go_simp
                  try (refine hK _ _ ?_; clear hK K)
                  refine wpAnyIn_done (by kernel_rfl) ?_ _
                  gi_wp2
                  exact ⟨(((KeepsOthers.setCell _ _ _).trans (KeepsOthers.setCell _ _ _)).trans (KeepsOthers.drew _)).from _, ⟨rfl, pre, x, rfl, HNO.out, HHA.out _ hh, blk_drew ((Below.heap_setCell _ _ _ _ (by dsimp only; omega)).trans (blk_put (cs := #[.int .i64 0]) Q4.out 0 _ rfl)), blk_drew (blk_put (cs := #[.int .i64 0]) ((Below.heap_setCell _ _ _ _ (by dsimp only; omega)).trans Q5.out) 0 _ rfl)⟩, below_drew ((HBW.out.setCell (p := ⟨w.heap.size + 1 + 1, 0, none⟩) (by dsimp only; omega) _).setCell (p := ⟨w.heap.size + 1 + 1 + 1, 0, none⟩) (by dsimp only; omega) _), (((KeepsOthers.setCell _ _ _).trans (KeepsOthers.setCell _ _ _)).trans (KeepsOthers.drew _)).same D1 _ hX rfl⟩
              · go_simp
                try (refine hK _ _ ?_; clear hK K)
                refine wpAnyIn_ready (rs := [6]) (by kernel_rfl) (by simp) ?_
                refine AllReadyIn.cons rfl (fun K hK => ?_) ?_
                rotate_left
                exact AllReadyIn.nil
                go_simp
                try (refine hK _ _ ?_; clear hK K)
                refine wpAnyIn_ready (rs := [7]) (by kernel_rfl) (by simp) ?_
                refine AllReadyIn.cons rfl (fun K hK => ?_) ?_
                rotate_left
                exact AllReadyIn.nil
                go_simp
                gi_wp2_with (refine ⟨trivial, ?_⟩; gi_at_call 69; refine (callsIn_wide.2 (pack_c _ _ _)).mono ?_; rintro e w' ⟨rfl, rfl⟩)
                try (refine hK _ _ ?_; clear hK K)
                refine wpAnyIn_ready (rs := [9]) (by kernel_rfl) (by simp) ?_
                refine AllReadyIn.cons rfl (fun K hK => ?_) ?_
                rotate_left
                exact AllReadyIn.nil
                go_simp
                try (refine hK _ _ ?_; clear hK K)
                refine wpAnyIn_done (by kernel_rfl) ?_ _
                gi_wp2
                exact ⟨(((KeepsOthers.setCell _ _ _).trans (KeepsOthers.setCell _ _ _)).trans (KeepsOthers.drew _)).from _, ⟨rfl, pre, x, rfl, HNO.out, HHA.out _ hh, blk_drew ((Below.heap_setCell _ _ _ _ (by dsimp only; omega)).trans (blk_put (cs := #[.int .i64 0]) Q4.out 0 _ rfl)), blk_drew (blk_put (cs := #[.int .i64 0]) ((Below.heap_setCell _ _ _ _ (by dsimp only; omega)).trans Q5.out) 0 _ rfl)⟩, below_drew ((HBW.out.setCell (p := ⟨w.heap.size + 1 + 1, 0, none⟩) (by dsimp only; omega) _).setCell (p := ⟨w.heap.size + 1 + 1 + 1, 0, none⟩) (by dsimp only; omega) _), (((KeepsOthers.setCell _ _ _).trans (KeepsOthers.setCell _ _ _)).trans (KeepsOthers.drew _)).same D1 _ hX rfl⟩
            · go_simp
              try (refine hK _ _ ?_; clear hK K)
              refine wpAnyIn_ready (rs := [4]) (by kernel_rfl) (by simp) ?_
              refine AllReadyIn.cons rfl (fun K hK => ?_) ?_
              rotate_left
              exact AllReadyIn.nil
              go_simp
              try (refine hK _ _ ?_; clear hK K)
              refine wpAnyIn_take (i := 5) (v := ?_) rfl rfl (by kernel_rfl) (by kernel_rfl) (by kernel_rfl) (fun _ _ _ h => h) ⟨Or.inl ⟨by rfl, ?_⟩, fun _ => rfl⟩ ?_
              rotate_left
              · (intro w; go_simp; with_reducible rfl)
              refine wpAnyIn_ready (rs := [6]) (by kernel_rfl) (by simp) ?_
              refine AllReadyIn.cons rfl (fun K hK => ?_) ?_
              rotate_left
              exact AllReadyIn.nil
              go_simp
              try (refine hK _ _ ?_; clear hK K)
              refine wpAnyIn_ready (rs := [7]) (by kernel_rfl) (by simp) ?_
              refine AllReadyIn.cons rfl (fun K hK => ?_) ?_
              rotate_left
              exact AllReadyIn.nil
              go_simp
              gi_wp2_with (refine ⟨trivial, ?_⟩; gi_at_call 69; refine (callsIn_wide.2 (pack_c _ _ _)).mono ?_; rintro e w' ⟨rfl, rfl⟩)
              try (refine hK _ _ ?_; clear hK K)
              refine wpAnyIn_ready (rs := [9]) (by kernel_rfl) (by simp) ?_
              refine AllReadyIn.cons rfl (fun K hK => ?_) ?_
              rotate_left
              exact AllReadyIn.nil
              go_simp
              try (refine hK _ _ ?_; clear hK K)
              refine wpAnyIn_done (by kernel_rfl) ?_ _
              gi_wp2
              exact ⟨(((KeepsOthers.setCell _ _ _).trans (KeepsOthers.setCell _ _ _)).trans (KeepsOthers.drew _)).from _, ⟨rfl, pre, x, rfl, HNO.out, HHA.out _ hh, blk_drew ((Below.heap_setCell _ _ _ _ (by dsimp only; omega)).trans (blk_put (cs := #[.int .i64 0]) Q4.out 0 _ rfl)), blk_drew (blk_put (cs := #[.int .i64 0]) ((Below.heap_setCell _ _ _ _ (by dsimp only; omega)).trans Q5.out) 0 _ rfl)⟩, below_drew ((HBW.out.setCell (p := ⟨w.heap.size + 1 + 1, 0, none⟩) (by dsimp only; omega) _).setCell (p := ⟨w.heap.size + 1 + 1 + 1, 0, none⟩) (by dsimp only; omega) _), (((KeepsOthers.setCell _ _ _).trans (KeepsOthers.setCell _ _ _)).trans (KeepsOthers.drew _)).same D1 _ hX rfl⟩
          · go_simp
            try (refine hK _ _ ?_; clear hK K)
            refine wpAnyIn_ready (rs := [2]) (by kernel_rfl) (by simp) ?_
            refine AllReadyIn.cons rfl (fun K hK => ?_) ?_
            rotate_left
            exact AllReadyIn.nil
            go_simp
            try (refine hK _ _ ?_; clear hK K)
            refine wpAnyIn_ready (rs := [4]) (by kernel_rfl) (by simp) ?_
            refine AllReadyIn.cons rfl (fun K hK => ?_) ?_
            rotate_left
            exact AllReadyIn.nil
            go_simp
            try (refine hK _ _ ?_; clear hK K)
            refine wpAnyIn_take (i := 5) (v := ?_) rfl rfl (by kernel_rfl) (by kernel_rfl) (by kernel_rfl) (fun _ _ _ h => h) ⟨Or.inl ⟨by rfl, ?_⟩, fun _ => rfl⟩ ?_
            rotate_left
            · (intro w; go_simp; with_reducible rfl)
            refine wpAnyIn_ready (rs := [6]) (by kernel_rfl) (by simp) ?_
            refine AllReadyIn.cons rfl (fun K hK => ?_) ?_
            rotate_left
            exact AllReadyIn.nil
            go_simp
            try (refine hK _ _ ?_; clear hK K)
            refine wpAnyIn_ready (rs := [7]) (by kernel_rfl) (by simp) ?_
            refine AllReadyIn.cons rfl (fun K hK => ?_) ?_
            rotate_left
            exact AllReadyIn.nil
            go_simp
            gi_wp2_with (refine ⟨trivial, ?_⟩; gi_at_call 69; refine (callsIn_wide.2 (pack_c _ _ _)).mono ?_; rintro e w' ⟨rfl, rfl⟩)
            try (refine hK _ _ ?_; clear hK K)
            refine wpAnyIn_ready (rs := [9]) (by kernel_rfl) (by simp) ?_
            refine AllReadyIn.cons rfl (fun K hK => ?_) ?_
            rotate_left
            exact AllReadyIn.nil
            go_simp
            try (refine hK _ _ ?_; clear hK K)
            refine wpAnyIn_done (by kernel_rfl) ?_ _
            gi_wp2
            exact ⟨(((KeepsOthers.setCell _ _ _).trans (KeepsOthers.setCell _ _ _)).trans (KeepsOthers.drew _)).from _, ⟨rfl, pre, x, rfl, HNO.out, HHA.out _ hh, blk_drew ((Below.heap_setCell _ _ _ _ (by dsimp only; omega)).trans (blk_put (cs := #[.int .i64 0]) Q4.out 0 _ rfl)), blk_drew (blk_put (cs := #[.int .i64 0]) ((Below.heap_setCell _ _ _ _ (by dsimp only; omega)).trans Q5.out) 0 _ rfl)⟩, below_drew ((HBW.out.setCell (p := ⟨w.heap.size + 1 + 1, 0, none⟩) (by dsimp only; omega) _).setCell (p := ⟨w.heap.size + 1 + 1 + 1, 0, none⟩) (by dsimp only; omega) _), (((KeepsOthers.setCell _ _ _).trans (KeepsOthers.setCell _ _ _)).trans (KeepsOthers.drew _)).same D1 _ hX rfl⟩
        | false =>
          gi_wp2
          refine region_round rfl l (by kernel_rfl) hmx ?_
          simp only [List.size_toArray, List.length_cons, List.length_nil, Nat.reduceAdd, Array.replicate_succ, Array.replicate_zero, List.push_toArray, List.append_toArray, List.nil_append, List.cons_append]
          refine wpAnyIn_take (i := 0) (v := ?_) rfl rfl (by kernel_rfl) (by kernel_rfl) (by kernel_rfl) (fun _ _ _ h => h) ⟨Or.inl ⟨by rfl, ?_⟩, fun _ => rfl⟩ ?_
          rotate_left
          · (intro w; go_simp; with_reducible rfl)
          refine wpAnyIn_take (i := 1) (v := ?_) rfl rfl (by kernel_rfl) (by kernel_rfl) (by kernel_rfl) (fun _ _ _ h => h) ⟨Or.inl ⟨by rfl, ?_⟩, fun _ => rfl⟩ ?_
          rotate_left
          · (intro w; go_simp; with_reducible rfl)
          refine wpAnyIn_take (i := 3) (v := ?_) rfl rfl (by kernel_rfl) (by kernel_rfl) (by kernel_rfl) (fun _ _ _ h => h) ⟨Or.inl ⟨by rfl, ?_⟩, fun _ => rfl⟩ ?_
          rotate_left
          · (intro w; go_simp; with_reducible rfl)
          refine wpAnyIn_ready (rs := [2, 8]) (by kernel_rfl) (by simp) ?_
          refine AllReadyIn.cons rfl (fun K hK => ?_) ?_
          rotate_left
          refine AllReadyIn.cons rfl (fun K hK => ?_) ?_
          rotate_left
          exact AllReadyIn.nil
          · go_simp
            try (refine hK _ _ ?_; clear hK K)
            refine wpAnyIn_ready (rs := [4, 8]) (by kernel_rfl) (by simp) ?_
            refine AllReadyIn.cons rfl (fun K hK => ?_) ?_
            rotate_left
            refine AllReadyIn.cons rfl (fun K hK => ?_) ?_
            rotate_left
            exact AllReadyIn.nil
            · go_simp
              try (refine hK _ _ ?_; clear hK K)
              refine wpAnyIn_take (i := 5) (v := ?_) rfl rfl (by kernel_rfl) (by kernel_rfl) (by kernel_rfl) (fun _ _ _ h => h) ⟨Or.inl ⟨by rfl, ?_⟩, fun _ => rfl⟩ ?_
              rotate_left
              · (intro w; go_simp; with_reducible rfl)
              refine wpAnyIn_ready (rs := [6, 8]) (by kernel_rfl) (by simp) ?_
              refine AllReadyIn.cons rfl (fun K hK => ?_) ?_
              rotate_left
              refine AllReadyIn.cons rfl (fun K hK => ?_) ?_
              rotate_left
              exact AllReadyIn.nil
              · go_simp
                try (refine hK _ _ ?_; clear hK K)
                refine wpAnyIn_ready (rs := [7, 8]) (by kernel_rfl) (by simp) ?_
                refine AllReadyIn.cons rfl (fun K hK => ?_) ?_
                rotate_left
                refine AllReadyIn.cons rfl (fun K hK => ?_) ?_
                rotate_left
                exact AllReadyIn.nil
                · go_simp
                  gi_wp2_with (refine ⟨trivial, ?_⟩; gi_at_call 69; refine (callsIn_wide.2 (pack_c _ _ _)).mono ?_; rintro e w' ⟨rfl, rfl⟩)
                  try (refine hK _ _ ?_; clear hK K)
                  refine wpAnyIn_ready (rs := [8]) (by kernel_rfl) (by simp) ?_
                  refine AllReadyIn.cons rfl (fun K hK => ?_) ?_
                  rotate_left
                  exact AllReadyIn.nil
                  go_simp
                  try (refine hK _ _ ?_; clear hK K)
                  refine wpAnyIn_ready (rs := [9]) (by kernel_rfl) (by simp) ?_
                  refine AllReadyIn.cons rfl (fun K hK => ?_) ?_
                  rotate_left
                  exact AllReadyIn.nil
                  go_simp
                  try (refine hK _ _ ?_; clear hK K)
                  refine wpAnyIn_done (by kernel_rfl) ?_ _
                  gi_wp2
                  exact ⟨(KeepsOthers.drew _).from _, ⟨below_drew (Below.refl _ _), rfl⟩, ⟨fun j hj => by rcases List.mem_append.1 hj with hj | hj; exact HNO.out j hj; obtain rfl : j = x := (by simpa using hj); exact HHA.out _ hh, blk_drew Q2.out, blk_drew Q3.out, blk_drew Q4.out, blk_drew Q5.out⟩, below_drew HBW.out, hX⟩
                · go_simp
                  try (refine hK _ _ ?_; clear hK K)
                  refine wpAnyIn_ready (rs := [7]) (by kernel_rfl) (by simp) ?_
                  refine AllReadyIn.cons rfl (fun K hK => ?_) ?_
                  rotate_left
                  exact AllReadyIn.nil
                  go_simp
                  gi_wp2_with (refine ⟨trivial, ?_⟩; gi_at_call 69; refine (callsIn_wide.2 (pack_c _ _ _)).mono ?_; rintro e w' ⟨rfl, rfl⟩)
                  try (refine hK _ _ ?_; clear hK K)
                  refine wpAnyIn_ready (rs := [9]) (by kernel_rfl) (by simp) ?_
                  refine AllReadyIn.cons rfl (fun K hK => ?_) ?_
                  rotate_left
                  exact AllReadyIn.nil
                  go_simp
                  try (refine hK _ _ ?_; clear hK K)
                  refine wpAnyIn_done (by kernel_rfl) ?_ _
                  gi_wp2
                  exact ⟨(KeepsOthers.drew _).from _, ⟨below_drew (Below.refl _ _), rfl⟩, ⟨fun j hj => by rcases List.mem_append.1 hj with hj | hj; exact HNO.out j hj; obtain rfl : j = x := (by simpa using hj); exact HHA.out _ hh, blk_drew Q2.out, blk_drew Q3.out, blk_drew Q4.out, blk_drew Q5.out⟩, below_drew HBW.out, hX⟩
              · go_simp
                try (refine hK _ _ ?_; clear hK K)
                refine wpAnyIn_ready (rs := [6]) (by kernel_rfl) (by simp) ?_
                refine AllReadyIn.cons rfl (fun K hK => ?_) ?_
                rotate_left
                exact AllReadyIn.nil
                go_simp
                try (refine hK _ _ ?_; clear hK K)
                refine wpAnyIn_ready (rs := [7]) (by kernel_rfl) (by simp) ?_
                refine AllReadyIn.cons rfl (fun K hK => ?_) ?_
                rotate_left
                exact AllReadyIn.nil
                go_simp
                gi_wp2_with (refine ⟨trivial, ?_⟩; gi_at_call 69; refine (callsIn_wide.2 (pack_c _ _ _)).mono ?_; rintro e w' ⟨rfl, rfl⟩)
                try (refine hK _ _ ?_; clear hK K)
                refine wpAnyIn_ready (rs := [9]) (by kernel_rfl) (by simp) ?_
                refine AllReadyIn.cons rfl (fun K hK => ?_) ?_
                rotate_left
                exact AllReadyIn.nil
                go_simp
                try (refine hK _ _ ?_; clear hK K)
                refine wpAnyIn_done (by kernel_rfl) ?_ _
                gi_wp2
                exact ⟨(KeepsOthers.drew _).from _, ⟨below_drew (Below.refl _ _), rfl⟩, ⟨fun j hj => by rcases List.mem_append.1 hj with hj | hj; exact HNO.out j hj; obtain rfl : j = x := (by simpa using hj); exact HHA.out _ hh, blk_drew Q2.out, blk_drew Q3.out, blk_drew Q4.out, blk_drew Q5.out⟩, below_drew HBW.out, hX⟩
            · go_simp
              try (refine hK _ _ ?_; clear hK K)
              refine wpAnyIn_ready (rs := [4]) (by kernel_rfl) (by simp) ?_
              refine AllReadyIn.cons rfl (fun K hK => ?_) ?_
              rotate_left
              exact AllReadyIn.nil
              go_simp
              try (refine hK _ _ ?_; clear hK K)
              refine wpAnyIn_take (i := 5) (v := ?_) rfl rfl (by kernel_rfl) (by kernel_rfl) (by kernel_rfl) (fun _ _ _ h => h) ⟨Or.inl ⟨by rfl, ?_⟩, fun _ => rfl⟩ ?_
              rotate_left
              · (intro w; go_simp; with_reducible rfl)
              refine wpAnyIn_ready (rs := [6]) (by kernel_rfl) (by simp) ?_
              refine AllReadyIn.cons rfl (fun K hK => ?_) ?_
              rotate_left
              exact AllReadyIn.nil
              go_simp
              try (refine hK _ _ ?_; clear hK K)
              refine wpAnyIn_ready (rs := [7]) (by kernel_rfl) (by simp) ?_
              refine AllReadyIn.cons rfl (fun K hK => ?_) ?_
              rotate_left
              exact AllReadyIn.nil
              go_simp
              gi_wp2_with (refine ⟨trivial, ?_⟩; gi_at_call 69; refine (callsIn_wide.2 (pack_c _ _ _)).mono ?_; rintro e w' ⟨rfl, rfl⟩)
              try (refine hK _ _ ?_; clear hK K)
              refine wpAnyIn_ready (rs := [9]) (by kernel_rfl) (by simp) ?_
              refine AllReadyIn.cons rfl (fun K hK => ?_) ?_
              rotate_left
              exact AllReadyIn.nil
              go_simp
              try (refine hK _ _ ?_; clear hK K)
              refine wpAnyIn_done (by kernel_rfl) ?_ _
              gi_wp2
              exact ⟨(KeepsOthers.drew _).from _, ⟨below_drew (Below.refl _ _), rfl⟩, ⟨fun j hj => by rcases List.mem_append.1 hj with hj | hj; exact HNO.out j hj; obtain rfl : j = x := (by simpa using hj); exact HHA.out _ hh, blk_drew Q2.out, blk_drew Q3.out, blk_drew Q4.out, blk_drew Q5.out⟩, below_drew HBW.out, hX⟩
          · go_simp
            try (refine hK _ _ ?_; clear hK K)
            refine wpAnyIn_ready (rs := [2]) (by kernel_rfl) (by simp) ?_
            refine AllReadyIn.cons rfl (fun K hK => ?_) ?_
            rotate_left
            exact AllReadyIn.nil
            go_simp
            try (refine hK _ _ ?_; clear hK K)
            refine wpAnyIn_ready (rs := [4]) (by kernel_rfl) (by simp) ?_
            refine AllReadyIn.cons rfl (fun K hK => ?_) ?_
            rotate_left
            exact AllReadyIn.nil
            go_simp
            try (refine hK _ _ ?_; clear hK K)
            refine wpAnyIn_take (i := 5) (v := ?_) rfl rfl (by kernel_rfl) (by kernel_rfl) (by kernel_rfl) (fun _ _ _ h => h) ⟨Or.inl ⟨by rfl, ?_⟩, fun _ => rfl⟩ ?_
            rotate_left
            · (intro w; go_simp; with_reducible rfl)
            refine wpAnyIn_ready (rs := [6]) (by kernel_rfl) (by simp) ?_
            refine AllReadyIn.cons rfl (fun K hK => ?_) ?_
            rotate_left
            exact AllReadyIn.nil
            go_simp
            try (refine hK _ _ ?_; clear hK K)
            refine wpAnyIn_ready (rs := [7]) (by kernel_rfl) (by simp) ?_
            refine AllReadyIn.cons rfl (fun K hK => ?_) ?_
            rotate_left
            exact AllReadyIn.nil
            go_simp
            gi_wp2_with (refine ⟨trivial, ?_⟩; gi_at_call 69; refine (callsIn_wide.2 (pack_c _ _ _)).mono ?_; rintro e w' ⟨rfl, rfl⟩)
            try (refine hK _ _ ?_; clear hK K)
            refine wpAnyIn_ready (rs := [9]) (by kernel_rfl) (by simp) ?_
            refine AllReadyIn.cons rfl (fun K hK => ?_) ?_
            rotate_left
            exact AllReadyIn.nil
            go_simp
            try (refine hK _ _ ?_; clear hK K)
            refine wpAnyIn_done (by kernel_rfl) ?_ _
            gi_wp2
            exact ⟨(KeepsOthers.drew _).from _, ⟨below_drew (Below.refl _ _), rfl⟩, ⟨fun j hj => by rcases List.mem_append.1 hj with hj | hj; exact HNO.out j hj; obtain rfl : j = x := (by simpa using hj); exact HHA.out _ hh, blk_drew Q2.out, blk_drew Q3.out, blk_drew Q4.out, blk_drew Q5.out⟩, below_drew HBW.out, hX⟩
      case stop =>
        rintro D c' pre W hD hpre ⟨⟨rfl, p, x, rfl, hno, hit, q4, q5⟩, hB, hX⟩ hK
        have E0 := Aside0.mk (fnd_b82 hz HN1.out (fd_some82 hpre hno hit))
        have Q4 := Aside0.mk q4
        have Q5 := Aside0.mk q5
        have HK2 := Aside0.mk hK
        have HX1 := Aside0.mk hX
        have HDM := Aside0.mk hD
        have HB3 := Aside0.mk hB
        clear q4 q5 hK hX hD hB hno hpre
        gi_wp2
        have hk := HK2.out
        have hr : ∀ r, some D = some r → ∃ o : Obj, W.heap[r]? = some o ∧ o.isCells = false := fun r e => by cases e; exact ⟨_, hk, rfl⟩
        have e4 := blk_own82 Q4.out (grownBy_putObj' _ D (.deferred none)) hr
        have e5 := blk_own82 Q5.out (grownBy_putObj' _ D (.deferred none)) hr
        have hb1 := (HB3.out).trans (belowK_b (w := w) (Nat.le_refl _) W D _ (.deferred none) (by have h1 := HDM.out; rw [HS2.out] at h1; have h2 := HB2.out.size; omega) hk rfl rfl)
        have hd1 : D1 ≠ D := by have h1 := HDM.out; rw [HS2.out] at h1; have h2 := HD1.out; omega
        have hk1 : (W.putObj D (.deferred none)).heap[D1]? = some (.deferred (some [])) := (World.putObj_heap_other hd1).trans HX1.out
        have hr1 : ∀ r, some D1 = some r → ∃ o : Obj, (W.putObj D (.deferred none)).heap[r]? = some o ∧ o.isCells = false := fun r e => by cases e; exact ⟨_, hk1, rfl⟩
        have e41 := blk_own82 e4 (grownBy_putObj' _ D1 (.deferred none)) hr1
        have e51 := blk_own82 e5 (grownBy_putObj' _ D1 (.deferred none)) hr1
        have hb2 := hb1.trans (belowK_b (w := w) (Nat.le_refl _) _ D1 _ (.deferred none) (by have h1 := HDL.out; rw [HS1.out] at h1; have h2 := HB1.out.size; omega) hk1 rfl rfl)
        refine ⟨by simp, .inl ⟨_, _, rfl, run_takeDeferred hk, ⟨by simp, .inl ⟨_, _, rfl, run_takeDeferred hk1, ?_⟩⟩⟩⟩
        exact ⟨_, results_find82 _ _ _ _ _ _ rfl rfl e41 e51, by rw [E0.out], hb2⟩
      case done =>
        rintro D2 ys V3 hD hys ⟨⟨hno, q2, q3, q4, q5⟩, hB, hX⟩ hK
        have E0 := Aside0.mk (fnd_c82 hz HN1.out (fd_none82 hys hno))
        have a40 := (blk_cell q4 0).trans rfl
        have a50 := (blk_cell q5 0).trans rfl
        have f40 := blk_frozen q4 0
        have f50 := blk_frozen q5 0
        have Q4 := Aside0.mk q4
        have Q5 := Aside0.mk q5
        have HK2 := Aside0.mk hK
        have HX1 := Aside0.mk hX
        have HDM := Aside0.mk hD
        have HB3 := Aside0.mk hB
        clear q2 q3 q4 q5 hK hX hD hB hno hys HQ2
        gi_wp2
        rw [roundsIn_succ]
        gi_wp2
        have hk := ((KeepsOthers.setCell V3 ⟨w.heap.size + 1 + 1, 0, none⟩ (.int .i64 (-1))).trans (KeepsOthers.setCell _ ⟨w.heap.size + 1 + 1 + 1, 0, none⟩ (.int .i64 3))).same D2 _ HK2.out rfl
        have hr : ∀ r, some D2 = some r → ∃ o : Obj, ((V3.setCell ⟨w.heap.size + 1 + 1, 0, none⟩ (.int .i64 (-1))).setCell ⟨w.heap.size + 1 + 1 + 1, 0, none⟩ (.int .i64 3)).heap[r]? = some o ∧ o.isCells = false := fun r e => by cases e; exact ⟨_, hk, rfl⟩
        have e4 := blk_own82 ((Below.heap_setCell _ _ _ _ (by dsimp only; omega)).trans (blk_put (cs := #[.int .i64 0]) Q4.out 0 (.int .i64 (-1)) rfl)) (grownBy_putObj' _ D2 (.deferred none)) hr
        have e5 := blk_own82 (blk_put (cs := #[.int .i64 0]) ((Below.heap_setCell _ _ _ _ (by dsimp only; omega)).trans Q5.out) 0 (.int .i64 3) rfl) (grownBy_putObj' _ D2 (.deferred none)) hr
        have hb1 := ((HB3.out.setCell (p := ⟨w.heap.size + 1 + 1, 0, none⟩) (by dsimp only; omega) (.int .i64 (-1))).setCell (p := ⟨w.heap.size + 1 + 1 + 1, 0, none⟩) (by dsimp only; omega) (.int .i64 3)).trans (belowK_b (w := w) (Nat.le_refl _) ((V3.setCell ⟨w.heap.size + 1 + 1, 0, none⟩ (.int .i64 (-1))).setCell ⟨w.heap.size + 1 + 1 + 1, 0, none⟩ (.int .i64 3)) D2 _ (.deferred none) (by have h1 := HDM.out; rw [HS2.out] at h1; have h2 := HB2.out.size; omega) hk rfl rfl)
        have hd1 : D1 ≠ D2 := by have h1 := HDM.out; rw [HS2.out] at h1; have h2 := HD1.out; omega
        have hk1 : (((V3.setCell ⟨w.heap.size + 1 + 1, 0, none⟩ (.int .i64 (-1))).setCell ⟨w.heap.size + 1 + 1 + 1, 0, none⟩ (.int .i64 3)).putObj D2 (.deferred none)).heap[D1]? = some (.deferred (some [])) := (World.putObj_heap_other hd1).trans (((KeepsOthers.setCell V3 ⟨w.heap.size + 1 + 1, 0, none⟩ (.int .i64 (-1))).trans (KeepsOthers.setCell _ ⟨w.heap.size + 1 + 1 + 1, 0, none⟩ (.int .i64 3))).same D1 _ HX1.out rfl)
        have hr1 : ∀ r, some D1 = some r → ∃ o : Obj, (((V3.setCell ⟨w.heap.size + 1 + 1, 0, none⟩ (.int .i64 (-1))).setCell ⟨w.heap.size + 1 + 1 + 1, 0, none⟩ (.int .i64 3)).putObj D2 (.deferred none)).heap[r]? = some o ∧ o.isCells = false := fun r e => by cases e; exact ⟨_, hk1, rfl⟩
        have e41 := blk_own82 e4 (grownBy_putObj' _ D1 (.deferred none)) hr1
        have e51 := blk_own82 e5 (grownBy_putObj' _ D1 (.deferred none)) hr1
        have hb2 := hb1.trans (belowK_b (w := w) (Nat.le_refl _) _ D1 _ (.deferred none) (by have h1 := HDL.out; rw [HS1.out] at h1; have h2 := HB1.out.size; omega) hk1 rfl rfl)
        refine ⟨by simp, .inl ⟨_, _, rfl, run_takeDeferred hk, ⟨by simp, .inl ⟨_, _, rfl, run_takeDeferred hk1, ?_⟩⟩⟩⟩
        exact ⟨_, results_find82 _ _ _ _ _ _ rfl rfl e41 e51, by rw [E0.out], hb2⟩
theorem results_take82 (tmps : Array Value) (w : World) (g4 g5 g6 : Nat) (x y u u' : Value) (h4 : tmps.getD 4 undef = .pointer (some ⟨g4, 0, none⟩)) (h5 : tmps.getD 5 undef = .pointer (some ⟨g5, 0, none⟩)) (h6 : tmps.getD 6 undef = .pointer (some ⟨g6, 0, none⟩))
    (b4 : w.heap[g4]? = some (.cells #[x, y] 24 (0, 0))) (b5 : w.heap[g5]? = some (.cells #[u] 3 (0, 0))) (b6 : w.heap[g6]? = some (.cells #[u'] 32 (0, 0))) : (results Try.f71 tmps).run Try.prog w = .ok (.tuple #[.agg #[x, y], u, u']) w := by
  have h4' : tmps[4]?.getD undef = .pointer (some ⟨g4, 0, none⟩) := by simpa using h4
  have h5' : tmps[5]?.getD undef = .pointer (some ⟨g5, 0, none⟩) := by simpa using h5
  have h6' : tmps[6]?.getD undef = .pointer (some ⟨g6, 0, none⟩) := by simpa using h6
  have c5 : w.cell? ⟨g5, 0, none⟩ = some u := (blk_cell b5 0).trans rfl
  have c6 : w.cell? ⟨g6, 0, none⟩ = some u' := (blk_cell b6 0).trans rfl
  have c40 : w.cell? ⟨g4, 0, none⟩ = some x := (blk_cell b4 0).trans rfl
  have c41 : w.cell? ⟨g4, 1, none⟩ = some y := (blk_cell b4 1).trans rfl
  simp [results, Try.f71, h4', h5', h6', asAddr, go_sem, c40, c41, c5, c6]
set_option maxRecDepth 100000 in
set_option maxHeartbeats 4000000 in
theorem takew82 (P0 : Nat → Prop) (A : Option Addr) (c : Nat) (xs : List SR) (last : Int) (v : RO) (hbig : xs.length ≤ 1000000) (w : World) (hV : Kd.V kR 82 w w.heap.size (fun k => P0 k) (.slice A xs.length c) xs) (r1 : List SR) (r3 r4 : Int)
    (hf : (match frs SR.f0 xs with | some i => (xs.set i ⟨1, (xs.getD i zR).f1, v⟩, pk (i : Int) (xs.getD i zR).f1, (0 : Int)) | none => (xs, 0, 4)) = (r1, r3, r4)) :
    Calls Try.prog 71 #[.agg #[.slice A xs.length c, .int .i64 last], .agg #[.int .i64 v.ser, .int .i64 v.str, .int .i64 v.wk, .int .i64 v.pr, .bool v.sd, .slice v.fa v.fn v.fc]] w fun e w' => ∃ v0 : Value, e = .returned (.tuple #[.agg #[v0, .int .i64 last], .int .i64 r3, .int .i64 r4]) ∧ Kd.V kR 82 w' w.heap.size (fun k => P0 k ∨ w.heap.size ≤ k) v0 r1 ∧ Below w.heap.size w w' := by
  have HC := Aside0.mk (Kd.V_reads' hV).2.2
  have HV := Aside0.mk hV
  have HF := Aside0.mk hf
  clear hV hf
  refine (callsIn_wide (n := 5)).1 ?_
  refine callsIn_of_wp_marks Try.func71 rfl trivial ?_ rfl
  simp only [Try.ntmps71, List.size_toArray, List.length_cons, List.length_nil, Nat.reduceAdd, Nat.reduceSub, Array.replicate_succ, Array.replicate_zero, List.push_toArray, List.append_toArray, List.nil_append, List.cons_append]
  gi_wp2_with (refine ⟨trivial, ?_⟩; gi_at_call 103; refine (callsIn_wide.2 (in82_c _ _ _ _ _ _)).mono ?_; rintro e w' ⟨rfl, rfl⟩)
  obtain ⟨w5, hw5⟩ : ∃ w5, ((((w.alloc (.cells #[.slice A xs.length c, .int .i64 last] 24)).alloc (.cells #[.int .i64 v.ser, .int .i64 v.str, .int .i64 v.wk, .int .i64 v.pr, .bool v.sd, .slice v.fa v.fn v.fc] 29)).alloc (.cells #[.slice none 0 0, .int .i64 0] 24)).alloc (.cells #[.int .i64 0] 3)).alloc (.cells #[.int .i64 0] 32) = w5 := ⟨_, rfl⟩
  have hB0 : Below w.heap.size w w5 := by rw [← hw5]; exact (((((Below.refl _ w).alloc (Nat.le_refl _) _).alloc (by simp) _).alloc (by simp; omega) _).alloc (by simp; omega) _).alloc (by simp; omega) _
  have hz5 : w5.heap.size = w.heap.size + 1 + 1 + 1 + 1 + 1 := by rw [← hw5]; simp
  have hB1 : Below w.heap.size w (qbox82 w5 A xs.length c last 0) := hB0.trans (qbox82_below _ _ _ _ _ _ (by omega))
  have HQ := qbox82_cells w5 A xs.length c last 0
  have hs := qbox82_size w5 A xs.length c last 0
  rw [hz5] at HQ hs
  have HS := Aside0.mk hs
  have b2 : w5.heap[w.heap.size]? = some (.cells #[.slice A xs.length c, .int .i64 last] 24 (0, 0)) := by rw [← hw5]; exact blk_alloc (blk_alloc (blk_alloc (blk_alloc (blk_new w _) _) _) _) _
  have b3 : w5.heap[w.heap.size + 1]? = some (.cells #[.int .i64 v.ser, .int .i64 v.str, .int .i64 v.wk, .int .i64 v.pr, .bool v.sd, .slice v.fa v.fn v.fc] 29 (0, 0)) := by rw [← hw5]; refine blk_alloc (blk_alloc (blk_alloc ?_ _) _) _; have h := blk_new (w.alloc (.cells #[.slice A xs.length c, .int .i64 last] 24)) (.cells #[.int .i64 v.ser, .int .i64 v.str, .int .i64 v.wk, .int .i64 v.pr, .bool v.sd, .slice v.fa v.fn v.fc] 29); rw [World.size_alloc] at h; exact h
  have b4 : w5.heap[w.heap.size + 1 + 1]? = some (.cells #[.slice none 0 0, .int .i64 0] 24 (0, 0)) := by rw [← hw5]; refine blk_alloc (blk_alloc ?_ _) _; have h := blk_new ((w.alloc (.cells #[.slice A xs.length c, .int .i64 last] 24)).alloc (.cells #[.int .i64 v.ser, .int .i64 v.str, .int .i64 v.wk, .int .i64 v.pr, .bool v.sd, .slice v.fa v.fn v.fc] 29)) (.cells #[.slice none 0 0, .int .i64 0] 24); rw [World.size_alloc, World.size_alloc] at h; exact h
  have b5 : w5.heap[w.heap.size + 1 + 1 + 1]? = some (.cells #[.int .i64 0] 3 (0, 0)) := by rw [← hw5]; refine blk_alloc ?_ _; have h := blk_new (((w.alloc (.cells #[.slice A xs.length c, .int .i64 last] 24)).alloc (.cells #[.int .i64 v.ser, .int .i64 v.str, .int .i64 v.wk, .int .i64 v.pr, .bool v.sd, .slice v.fa v.fn v.fc] 29)).alloc (.cells #[.slice none 0 0, .int .i64 0] 24)) (.cells #[.int .i64 0] 3); rw [World.size_alloc, World.size_alloc, World.size_alloc] at h; exact h
  have b6 : w5.heap[w.heap.size + 1 + 1 + 1 + 1]? = some (.cells #[.int .i64 0] 32 (0, 0)) := by rw [← hw5]; have h := blk_new ((((w.alloc (.cells #[.slice A xs.length c, .int .i64 last] 24)).alloc (.cells #[.int .i64 v.ser, .int .i64 v.str, .int .i64 v.wk, .int .i64 v.pr, .bool v.sd, .slice v.fa v.fn v.fc] 29)).alloc (.cells #[.slice none 0 0, .int .i64 0] 24)).alloc (.cells #[.int .i64 0] 3)) (.cells #[.int .i64 0] 32); rw [World.size_alloc, World.size_alloc, World.size_alloc, World.size_alloc] at h; exact h
  have HBB := Aside0.mk hB1
  rw [hw5]
  clear hw5 hB0
  refine wpIn_rangeFunc_ownG rfl (by omega) (gf := 130) (lb := #[.pointer (some ⟨w.heap.size + 1 + 1 + 1 + 1 + 1, 0, none⟩), .pointer (some ⟨w.heap.size + 1 + 1 + 1 + 1 + 1 + 1, 0, none⟩)]) (by rw [← hz5]; rfl) trivial (enters_of Try.func130 (by kernel_rfl) rfl)
    (in82_stops Fence.wide 4 trivial rfl (by omega) (w.heap.size + 1 + 1 + 1 + 1 + 1) (w.heap.size + 1 + 1 + 1 + 1 + 1 + 1) w.heap.size A c xs 0 hbig _ (by rw [HS.out]; omega) (by rw [HS.out]; omega) (by rw [HS.out]; omega) HQ.1 HQ.2.2 (fun W' hb => Kd.C_below HC.out (hB1.trans hb))) KpB.trans (kpB_b (by rw [HS.out]; omega) (by rw [HS.out]; omega)) (Below.refl _ _) (fun _ => rfl)
    (fun pre W => (pre = [] ∧ W.heap[w.heap.size]? = some (.cells #[.slice A xs.length c, .int .i64 last] 24 (0, 0)) ∧ W.heap[w.heap.size + 1]? = some (.cells #[.int .i64 v.ser, .int .i64 v.str, .int .i64 v.wk, .int .i64 v.pr, .bool v.sd, .slice v.fa v.fn v.fc] 29 (0, 0)) ∧ W.heap[w.heap.size + 1 + 1]? = some (.cells #[.slice none 0 0, .int .i64 0] 24 (0, 0)) ∧ W.heap[w.heap.size + 1 + 1 + 1]? = some (.cells #[.int .i64 0] 3 (0, 0)) ∧ W.heap[w.heap.size + 1 + 1 + 1 + 1]? = some (.cells #[.int .i64 0] 32 (0, 0))) ∧ Below w.heap.size w W)
    (fun c' pre W => (c' = .ret ∧ ∃ (x : Fin xs.length) (v0 : Value), pre = [x] ∧ W.heap[w.heap.size + 1 + 1]? = some (.cells #[v0, .int .i64 last] 24 (0, 0)) ∧ W.heap[w.heap.size + 1 + 1 + 1]? = some (.cells #[.int .i64 (pk (x.val : Int) (xs.getD x.val zR).f1)] 3 (0, 0)) ∧ W.heap[w.heap.size + 1 + 1 + 1 + 1]? = some (.cells #[.int .i64 0] 32 (0, 0)) ∧ Kd.R kR 82 W w.heap.size (fun k => w.heap.size ≤ k) v0 (xs.set x.val ⟨1, (xs.getD x.val zR).f1, v⟩)) ∧ Below w.heap.size w W)
    (OwnFrom.and (Own.from (fun s A B row hs hg hr => ⟨hs.1, blk_own82 hs.2.1 hg hr, blk_own82 hs.2.2.1 hg hr, blk_own82 hs.2.2.2.1 hg hr, blk_own82 hs.2.2.2.2.1 hg hr, blk_own82 hs.2.2.2.2.2 hg hr⟩) _) (ownFrom_below (Nat.le_refl _) (by rw [HS.out]; omega)))
    (fun c => OwnFrom.and (Own.from (fun s A B row hs hg hr => by obtain ⟨h1, x, v0, h2, h3, h4, h5, h6⟩ := hs; exact ⟨h1, x, v0, h2, blk_own82 h3 hg hr, blk_own82 h4 hg hr, blk_own82 h5 hg hr, R_own82 h6 hg hr⟩) _) (ownFrom_below (Nat.le_refl _) (by rw [HS.out]; omega)))
    ⟨⟨rfl, blk_alloc (blk_alloc b2 _) _, blk_alloc (blk_alloc b3 _) _, blk_alloc (blk_alloc b4 _) _, blk_alloc (blk_alloc b5 _) _, blk_alloc (blk_alloc b6 _) _⟩, hB1⟩
    (fun x => { tmps := #[.agg #[.slice A xs.length c, .int .i64 last], .agg #[.int .i64 v.ser, .int .i64 v.str, .int .i64 v.wk, .int .i64 v.pr, .bool v.sd, .slice v.fa v.fn v.fc], .pointer (some ⟨w.heap.size, 0, none⟩), .pointer (some ⟨w.heap.size + 1, 0, none⟩), .pointer (some ⟨w.heap.size + 1 + 1, 0, none⟩), .pointer (some ⟨w.heap.size + 1 + 1 + 1, 0, none⟩), .pointer (some ⟨w.heap.size + 1 + 1 + 1 + 1, 0, none⟩), .int .i64 (x.val : Int), undef, .agg #[.slice A xs.length c, .int .i64 last], .func (.func 130) #[] #[.pointer (some ⟨w.heap.size + 1 + 1 + 1 + 1 + 1, 0, none⟩), .pointer (some ⟨w.heap.size + 1 + 1 + 1 + 1 + 1 + 1, 0, none⟩)], .int .i64 (x.val : Int), undef, undef, undef, undef, undef, undef, undef, undef, undef, undef, undef, undef, undef, undef], defers := [] }) ?assign ?body ?done ?stop
  case assign =>
    intro l x W K hK
    gi_wp2
    exact hK
  case body =>
    rintro l pre x W ⟨⟨rfl, q2, q3, q4, q5, q6⟩, hB⟩ _
    have hCW := Kd.C_below HC.out hB
    obtain ⟨ad, eA, hcx, hcy, hc2, hc3, hc4, hc5, hc6, hc7⟩ := at_TR hCW (x.val : Int) (by omega) (by have := x.isLt; omega)
    cases eA
    rw [Int.toNat_natCast] at hcx hcy hc2 hc3 hc4 hc5 hc6 hc7
    have hxl := x.isLt
    obtain ⟨y0, hy0⟩ : ∃ y0 : SR, y0 = xs.getD x.val zR := ⟨_, rfl⟩
    have hxv : rd_TR xs (x.val : Int) = y0 := by unfold rd_TR; rw [Int.toNat_natCast, hy0]
    have k4 := blk_lt q4
    have k5 := blk_lt q5
    have k6 := blk_lt q6
    rw [hxv] at hcx hcy hc2 hc3 hc4 hc5 hc6 hc7
    have HB := Aside0.mk hB
    have Q2 := Aside0.mk q2
    have Q4 := Aside0.mk q4
    have Q5 := Aside0.mk q5
    have Q6 := Aside0.mk q6
    have a20 := (blk_cell q2 0).trans rfl
    have a21 := (blk_cell q2 1).trans rfl
    have hl3 := blk_lt q3
    obtain ⟨y, hy⟩ : ∃ y : SR, y = ⟨1, y0.f1, v⟩ := ⟨_, rfl⟩
    have HT := Aside0.mk (turn82_c 105 #[.pointer (some ⟨w.heap.size + 1, 0, none⟩)] (enters_of Try.func105 (by kernel_rfl) rfl) (some ad) c xs last x.val hxl y W hbig hCW (fun W' g cap hb hg hR => by rw [hy, hy0]; exact take182_do W (w.heap.size + 1) hl3 v q3 xs x.val hxl W' g cap hb hg hR))
    have HY0 := Aside0.mk hy0
    have HYY := Aside0.mk hy
    clear hB q2 q3 q4 q5 q6 hcx hcy hc2 hc3 hc4 hc5 hc6 hc7 hCW hy hy0
    gi_wp2_with (refine ⟨trivial, ?_⟩; gi_at_call 104; refine (CallsIn.inRound l (callsIn_wide.2 HT.out)).mono ?_; rintro e w1 ⟨g, cap, rfl, hR1, hB1⟩; have r2 := blk_below Q2.out hB1; have r4 := blk_below Q4.out hB1; have r5 := blk_below Q5.out hB1; have r6 := blk_below Q6.out hB1; have hb1 := HB.out.trans (hB1.mono HB.out.size); obtain ⟨ad1, eA, hcx, hcy, hc2, hc3, hc4, hc5, hc6, hc7⟩ := at_TR (Kd.C_below HC.out hb1) (x.val : Int) (by omega) (by have := x.isLt; omega); cases eA; rw [Int.toNat_natCast] at hcx hcy hc2 hc3 hc4 hc5 hc6 hc7; rw [hxv] at hcx hcy hc2 hc3 hc4 hc5 hc6 hc7; have g2 := blk_lt r2; have g4 := blk_lt r4; have g5 := blk_lt r5; have g6 := blk_lt r6; have c20 := (blk_cell r2 0).trans rfl; have c21 := (blk_cell r2 1).trans rfl; have c40 := (blk_cell r4 0).trans rfl; have c41 := (blk_cell r4 1).trans rfl; have c50 := (blk_cell r5 0).trans rfl; have c60 := (blk_cell r6 0).trans rfl; have f40 := blk_frozen r4 0; have f41 := blk_frozen r4 1; have f50 := blk_frozen r5 0; have f60 := blk_frozen r6 0; have R4 := Aside0.mk r4; have R5 := Aside0.mk r5; have R6 := Aside0.mk r6; have HR1 := Aside0.mk hR1; have HB1 := Aside0.mk hB1; have HB2 := Aside0.mk hb1; clear r2 r4 r5 r6 hR1 hB1 hb1)
    have hcy2 := cell_alloc_l (.cells #[.slice (some ⟨g, 0, none⟩) xs.length cap, .int .i64 last] 24) hcy
    have hmx : Try.prog.follows .mixedOrders = true := by kernel_rfl
    clear HQ hs HS HBB b2 b3 b4 b5 b6 HT HF HV
    refine region_round rfl l (by kernel_rfl) hmx ?_
    simp only [List.size_toArray, List.length_cons, List.length_nil, Nat.reduceAdd, Array.replicate_succ, Array.replicate_zero, List.push_toArray, List.append_toArray, List.nil_append, List.cons_append]
    have fin : KeepsFrom (qbox82 w5 (some ad) xs.length c last 0).heap.size W ((((((w1.setCell ⟨w.heap.size + 1 + 1, 0, none⟩ (.slice (some ⟨g, 0, none⟩) xs.length cap)).setCell ⟨w.heap.size + 1 + 1, 1, none⟩ (.int .i64 last)).setCell ⟨w.heap.size + 1 + 1 + 1, 0, none⟩ (.int .i64 (pk (x.val : Int) y0.f1))).setCell ⟨w.heap.size + 1 + 1 + 1 + 1, 0, none⟩ (.int .i64 0)).alloc (.cells #[.slice (some ⟨g, 0, none⟩) xs.length cap, .int .i64 last] 24)).drew) ∧ (fun W : World => (∃ (x_1 : Fin xs.length) (v0 : Value), [x] = [x_1] ∧ W.heap[w.heap.size + 1 + 1]? = some (.cells #[v0, .int .i64 last] 24 (0, 0)) ∧ W.heap[w.heap.size + 1 + 1 + 1]? = some (.cells #[.int .i64 (pk (x_1.val : Int) (xs.getD x_1.val zR).f1)] 3 (0, 0)) ∧ W.heap[w.heap.size + 1 + 1 + 1 + 1]? = some (.cells #[.int .i64 0] 32 (0, 0)) ∧ Kd.R kR 82 W w.heap.size (fun k => w.heap.size ≤ k) v0 (xs.set x_1.val ⟨1, (xs.getD x_1.val zR).f1, v⟩)) ∧ Below w.heap.size w W) ((((((w1.setCell ⟨w.heap.size + 1 + 1, 0, none⟩ (.slice (some ⟨g, 0, none⟩) xs.length cap)).setCell ⟨w.heap.size + 1 + 1, 1, none⟩ (.int .i64 last)).setCell ⟨w.heap.size + 1 + 1 + 1, 0, none⟩ (.int .i64 (pk (x.val : Int) y0.f1))).setCell ⟨w.heap.size + 1 + 1 + 1 + 1, 0, none⟩ (.int .i64 0)).alloc (.cells #[.slice (some ⟨g, 0, none⟩) xs.length cap, .int .i64 last] 24)).drew) := by
      refine ⟨(((((((keepsOthers_below82 HB1.out).trans (KeepsOthers.setCell _ _ _)).trans (KeepsOthers.setCell _ _ _)).trans (KeepsOthers.setCell _ _ _)).trans (KeepsOthers.setCell _ _ _)).trans (KeepsOthers.alloc _ _)).trans (KeepsOthers.drew _)).from _, ⟨x, .slice (some ⟨g, 0, none⟩) xs.length cap, rfl, ?_, ?_, ?_, ?_⟩, ?_⟩
      · refine blk_drew (blk_alloc ?_ _)
        exact (Below.heap_setCell _ _ _ _ (by dsimp only; omega)).trans ((Below.heap_setCell _ _ _ _ (by dsimp only; omega)).trans (blk_put (cs := #[.slice (some ⟨g, 0, none⟩) xs.length cap, .int .i64 0]) (blk_put (cs := #[.slice none 0 0, .int .i64 0]) R4.out 0 _ rfl) 1 _ rfl))
      · refine blk_drew (blk_alloc ?_ _)
        rw [← HY0.out]
        exact (Below.heap_setCell _ _ _ _ (by dsimp only; omega)).trans (blk_put (cs := #[.int .i64 0]) ((Below.heap_setCell _ _ _ _ (by dsimp only; omega)).trans ((Below.heap_setCell _ _ _ _ (by dsimp only; omega)).trans R5.out)) 0 _ rfl)
      · refine blk_drew (blk_alloc ?_ _)
        exact blk_put (cs := #[.int .i64 0]) ((Below.heap_setCell _ _ _ _ (by dsimp only; omega)).trans ((Below.heap_setCell _ _ _ _ (by dsimp only; omega)).trans ((Below.heap_setCell _ _ _ _ (by dsimp only; omega)).trans R6.out))) 0 _ rfl
      · rw [← HY0.out, ← HYY.out]
        refine Kd.R_drew (Kd.R_alloc (Kd.R_mono (Kd.R_lower ?_ HB.out.size) (fun k hk => Nat.le_trans HB.out.size hk)) _)
        exact Kd.R_far (p := ⟨w.heap.size + 1 + 1 + 1 + 1, 0, none⟩) (Kd.R_far (p := ⟨w.heap.size + 1 + 1 + 1, 0, none⟩) (Kd.R_far (p := ⟨w.heap.size + 1 + 1, 1, none⟩) (Kd.R_far (p := ⟨w.heap.size + 1 + 1, 0, none⟩) HR1.out (fun k hk => by simp; omega) _) (fun k hk => by simp; omega) _) (fun k hk => by simp; omega) _) (fun k hk => by simp; omega) _
      · exact below_drew (Below.alloc ((((HB2.out.setCell (p := ⟨w.heap.size + 1 + 1, 0, none⟩) (by simp; omega) _).setCell (p := ⟨w.heap.size + 1 + 1, 1, none⟩) (by simp; omega) _).setCell (p := ⟨w.heap.size + 1 + 1 + 1, 0, none⟩) (by simp; omega) _).setCell (p := ⟨w.heap.size + 1 + 1 + 1 + 1, 0, none⟩) (by simp; omega) _) (by simp; omega) _)
    have FN := Aside0.mk fin
    clear fin
    have hq : True := trivial
    · clear hq
      refine wpAnyIn_take (i := 1) (v := ?_) rfl rfl (by kernel_rfl) (by kernel_rfl) (by kernel_rfl) (fun _ _ _ h => h) ⟨Or.inl ⟨by rfl, ?_⟩, fun _ => rfl⟩ ?_
      rotate_left
      · (intro w; go_simp; with_reducible rfl)
      refine wpAnyIn_take (i := 2) (v := ?_) rfl rfl (by kernel_rfl) (by kernel_rfl) (by kernel_rfl) (fun _ _ _ h => h) ⟨Or.inl ⟨by rfl, ?_⟩, fun _ => rfl⟩ ?_
      rotate_left
      · (intro w; go_simp; with_reducible rfl)
      refine wpAnyIn_take (i := 4) (v := ?_) rfl rfl (by kernel_rfl) (by kernel_rfl) (by kernel_rfl) (fun _ _ _ h => h) ⟨Or.inl ⟨by rfl, ?_⟩, fun _ => rfl⟩ ?_
      rotate_left
      · (intro w; go_simp; with_reducible rfl)
      refine wpAnyIn_ready (rs := [0, 3]) (by kernel_rfl) (by simp) ?_
      refine AllReadyIn.cons rfl (fun K hK => ?_) ?_
      rotate_left
      refine AllReadyIn.cons rfl (fun K hK => ?_) ?_
      rotate_left
      exact AllReadyIn.nil
      · go_simp
        try (refine hK _ _ ?_; clear hK K)
        refine wpAnyIn_ready (rs := [3]) (by kernel_rfl) (by simp) ?_
        refine AllReadyIn.cons rfl (fun K hK => ?_) ?_
        rotate_left
        exact AllReadyIn.nil
        go_simp
        try (refine hK _ _ ?_; clear hK K)
        refine wpAnyIn_ready (rs := [5]) (by kernel_rfl) (by simp) ?_
        refine AllReadyIn.cons rfl (fun K hK => ?_) ?_
        rotate_left
        exact AllReadyIn.nil
        go_simp
        try (refine hK _ _ ?_; clear hK K)
        refine wpAnyIn_take (i := 6) (v := ?_) rfl rfl (by kernel_rfl) (by kernel_rfl) (by kernel_rfl) (fun _ _ _ h => h) ⟨Or.inl ⟨by rfl, ?_⟩, fun _ => rfl⟩ ?_
        rotate_left
        · (intro w; go_simp; with_reducible rfl)
        refine wpAnyIn_ready (rs := [7]) (by kernel_rfl) (by simp) ?_
        refine AllReadyIn.cons rfl (fun K hK => ?_) ?_
        rotate_left
        exact AllReadyIn.nil
        go_simp
        try (refine hK _ _ ?_; clear hK K)
        refine wpAnyIn_ready (rs := [8]) (by kernel_rfl) (by simp) ?_
        refine AllReadyIn.cons rfl (fun K hK => ?_) ?_
        rotate_left
        exact AllReadyIn.nil
        go_simp
        gi_wp2_with (refine ⟨trivial, ?_⟩; gi_at_call 69; refine (callsIn_wide.2 (pack_c _ _ _)).mono ?_; rintro e w' ⟨rfl, rfl⟩)
        try (refine hK _ _ ?_; clear hK K)
        refine wpAnyIn_ready (rs := [9]) (by kernel_rfl) (by simp) ?_
        refine AllReadyIn.cons rfl (fun K hK => ?_) ?_
        rotate_left
        exact AllReadyIn.nil
        go_simp
        try (refine hK _ _ ?_; clear hK K)
        refine wpAnyIn_ready (rs := [10]) (by kernel_rfl) (by simp) ?_
        refine AllReadyIn.cons rfl (fun K hK => ?_) ?_
        rotate_left
        exact AllReadyIn.nil
        go_simp
        try (refine hK _ _ ?_; clear hK K)
        refine wpAnyIn_ready (rs := [11]) (by kernel_rfl) (by simp) ?_
        refine AllReadyIn.cons rfl (fun K hK => ?_) ?_
        rotate_left
        exact AllReadyIn.nil
        go_simp
        try (refine hK _ _ ?_; clear hK K)
        refine wpAnyIn_done (by kernel_rfl) ?_ _
        gi_wp2
        exact ⟨FN.out.1, ⟨rfl, FN.out.2.1⟩, FN.out.2.2⟩
      · go_simp
        try (refine hK _ _ ?_; clear hK K)
        refine wpAnyIn_ready (rs := [0, 5]) (by kernel_rfl) (by simp) ?_
        refine AllReadyIn.cons rfl (fun K hK => ?_) ?_
        rotate_left
        refine AllReadyIn.cons rfl (fun K hK => ?_) ?_
        rotate_left
        exact AllReadyIn.nil
        · go_simp
          try (refine hK _ _ ?_; clear hK K)
          refine wpAnyIn_ready (rs := [5]) (by kernel_rfl) (by simp) ?_
          refine AllReadyIn.cons rfl (fun K hK => ?_) ?_
          rotate_left
          exact AllReadyIn.nil
          go_simp
          try (refine hK _ _ ?_; clear hK K)
          refine wpAnyIn_take (i := 6) (v := ?_) rfl rfl (by kernel_rfl) (by kernel_rfl) (by kernel_rfl) (fun _ _ _ h => h) ⟨Or.inl ⟨by rfl, ?_⟩, fun _ => rfl⟩ ?_
          rotate_left
          · (intro w; go_simp; with_reducible rfl)
          refine wpAnyIn_ready (rs := [7]) (by kernel_rfl) (by simp) ?_
          refine AllReadyIn.cons rfl (fun K hK => ?_) ?_
          rotate_left
          exact AllReadyIn.nil
          go_simp
          try (refine hK _ _ ?_; clear hK K)
          refine wpAnyIn_ready (rs := [8]) (by kernel_rfl) (by simp) ?_
          refine AllReadyIn.cons rfl (fun K hK => ?_) ?_
          rotate_left
          exact AllReadyIn.nil
          go_simp
          gi_wp2_with (refine ⟨trivial, ?_⟩; gi_at_call 69; refine (callsIn_wide.2 (pack_c _ _ _)).mono ?_; rintro e w' ⟨rfl, rfl⟩)
          try (refine hK _ _ ?_; clear hK K)
          refine wpAnyIn_ready (rs := [9]) (by kernel_rfl) (by simp) ?_
          refine AllReadyIn.cons rfl (fun K hK => ?_) ?_
          rotate_left
          exact AllReadyIn.nil
          go_simp
          try (refine hK _ _ ?_; clear hK K)
          refine wpAnyIn_ready (rs := [10]) (by kernel_rfl) (by simp) ?_
          refine AllReadyIn.cons rfl (fun K hK => ?_) ?_
          rotate_left
          exact AllReadyIn.nil
          go_simp
          try (refine hK _ _ ?_; clear hK K)
          refine wpAnyIn_ready (rs := [11]) (by kernel_rfl) (by simp) ?_
          refine AllReadyIn.cons rfl (fun K hK => ?_) ?_
          rotate_left
          exact AllReadyIn.nil
          go_simp
          try (refine hK _ _ ?_; clear hK K)
          refine wpAnyIn_done (by kernel_rfl) ?_ _
          gi_wp2
          exact ⟨FN.out.1, ⟨rfl, FN.out.2.1⟩, FN.out.2.2⟩
        · go_simp
          try (refine hK _ _ ?_; clear hK K)
          refine wpAnyIn_take (i := 6) (v := ?_) rfl rfl (by kernel_rfl) (by kernel_rfl) (by kernel_rfl) (fun _ _ _ h => h) ⟨Or.inl ⟨by rfl, ?_⟩, fun _ => rfl⟩ ?_
          rotate_left
          · (intro w; go_simp; with_reducible rfl)
          refine wpAnyIn_ready (rs := [0, 7]) (by kernel_rfl) (by simp) ?_
          refine AllReadyIn.cons rfl (fun K hK => ?_) ?_
          rotate_left
          refine AllReadyIn.cons rfl (fun K hK => ?_) ?_
          rotate_left
          exact AllReadyIn.nil
          · go_simp
            try (refine hK _ _ ?_; clear hK K)
            refine wpAnyIn_ready (rs := [7]) (by kernel_rfl) (by simp) ?_
            refine AllReadyIn.cons rfl (fun K hK => ?_) ?_
            rotate_left
            exact AllReadyIn.nil
            go_simp
            try (refine hK _ _ ?_; clear hK K)
            refine wpAnyIn_ready (rs := [8]) (by kernel_rfl) (by simp) ?_
            refine AllReadyIn.cons rfl (fun K hK => ?_) ?_
            rotate_left
            exact AllReadyIn.nil
            go_simp
            gi_wp2_with (refine ⟨trivial, ?_⟩; gi_at_call 69; refine (callsIn_wide.2 (pack_c _ _ _)).mono ?_; rintro e w' ⟨rfl, rfl⟩)
            try (refine hK _ _ ?_; clear hK K)
            refine wpAnyIn_ready (rs := [9]) (by kernel_rfl) (by simp) ?_
            refine AllReadyIn.cons rfl (fun K hK => ?_) ?_
            rotate_left
            exact AllReadyIn.nil
            go_simp
            try (refine hK _ _ ?_; clear hK K)
            refine wpAnyIn_ready (rs := [10]) (by kernel_rfl) (by simp) ?_
            refine AllReadyIn.cons rfl (fun K hK => ?_) ?_
            rotate_left
            exact AllReadyIn.nil
            go_simp
            try (refine hK _ _ ?_; clear hK K)
            refine wpAnyIn_ready (rs := [11]) (by kernel_rfl) (by simp) ?_
            refine AllReadyIn.cons rfl (fun K hK => ?_) ?_
            rotate_left
            exact AllReadyIn.nil
            go_simp
            try (refine hK _ _ ?_; clear hK K)
            refine wpAnyIn_done (by kernel_rfl) ?_ _
            gi_wp2
            exact ⟨FN.out.1, ⟨rfl, FN.out.2.1⟩, FN.out.2.2⟩
          · go_simp
            try (refine hK _ _ ?_; clear hK K)
            refine wpAnyIn_ready (rs := [0, 8]) (by kernel_rfl) (by simp) ?_
            refine AllReadyIn.cons rfl (fun K hK => ?_) ?_
            rotate_left
            refine AllReadyIn.cons rfl (fun K hK => ?_) ?_
            rotate_left
            exact AllReadyIn.nil
            · go_simp
              try (refine hK _ _ ?_; clear hK K)
              refine wpAnyIn_ready (rs := [8]) (by kernel_rfl) (by simp) ?_
              refine AllReadyIn.cons rfl (fun K hK => ?_) ?_
              rotate_left
              exact AllReadyIn.nil
              go_simp
              gi_wp2_with (refine ⟨trivial, ?_⟩; gi_at_call 69; refine (callsIn_wide.2 (pack_c _ _ _)).mono ?_; rintro e w' ⟨rfl, rfl⟩)
              try (refine hK _ _ ?_; clear hK K)
              refine wpAnyIn_ready (rs := [9]) (by kernel_rfl) (by simp) ?_
              refine AllReadyIn.cons rfl (fun K hK => ?_) ?_
              rotate_left
              exact AllReadyIn.nil
              go_simp
              try (refine hK _ _ ?_; clear hK K)
              refine wpAnyIn_ready (rs := [10]) (by kernel_rfl) (by simp) ?_
              refine AllReadyIn.cons rfl (fun K hK => ?_) ?_
              rotate_left
              exact AllReadyIn.nil
              go_simp
              try (refine hK _ _ ?_; clear hK K)
              refine wpAnyIn_ready (rs := [11]) (by kernel_rfl) (by simp) ?_
              refine AllReadyIn.cons rfl (fun K hK => ?_) ?_
              rotate_left
              exact AllReadyIn.nil
              go_simp
              try (refine hK _ _ ?_; clear hK K)
              refine wpAnyIn_done (by kernel_rfl) ?_ _
              gi_wp2
              exact ⟨FN.out.1, ⟨rfl, FN.out.2.1⟩, FN.out.2.2⟩
            · go_simp
              gi_wp2_with (refine ⟨trivial, ?_⟩; gi_at_call 69; refine (callsIn_wide.2 (pack_c _ _ _)).mono ?_; rintro e w' ⟨rfl, rfl⟩)
              try (refine hK _ _ ?_; clear hK K)
              refine wpAnyIn_ready (rs := [0]) (by kernel_rfl) (by simp) ?_
              refine AllReadyIn.cons rfl (fun K hK => ?_) ?_
              rotate_left
              exact AllReadyIn.nil
              go_simp
              try (refine hK _ _ ?_; clear hK K)
              refine wpAnyIn_ready (rs := [9]) (by kernel_rfl) (by simp) ?_
              refine AllReadyIn.cons rfl (fun K hK => ?_) ?_
              rotate_left
              exact AllReadyIn.nil
              go_simp
              try (refine hK _ _ ?_; clear hK K)
              refine wpAnyIn_ready (rs := [10]) (by kernel_rfl) (by simp) ?_
              refine AllReadyIn.cons rfl (fun K hK => ?_) ?_
              rotate_left
              exact AllReadyIn.nil
              go_simp
              try (refine hK _ _ ?_; clear hK K)
              refine wpAnyIn_ready (rs := [11]) (by kernel_rfl) (by simp) ?_
              refine AllReadyIn.cons rfl (fun K hK => ?_) ?_
              rotate_left
              exact AllReadyIn.nil
              go_simp
              try (refine hK _ _ ?_; clear hK K)
              refine wpAnyIn_done (by kernel_rfl) ?_ _
              gi_wp2
              exact ⟨FN.out.1, ⟨rfl, FN.out.2.1⟩, FN.out.2.2⟩
  case done =>
    rintro D ys W hD hys ⟨⟨rfl, q2, q3, q4, q5, q6⟩, hB⟩ hK
    have hn : frs SR.f0 xs = none := inS_none82 hys.symm
    have hf := HF.out
    rw [hn] at hf
    simp only [Prod.mk.injEq] at hf
    obtain ⟨rfl, rfl, rfl⟩ := hf
    have a20 := (blk_cell q2 0).trans rfl
    have a21 := (blk_cell q2 1).trans rfl
    have a40 := (blk_cell q4 0).trans rfl
    have a41 := (blk_cell q4 1).trans rfl
    have a50 := (blk_cell q5 0).trans rfl
    have a60 := (blk_cell q6 0).trans rfl
    have f40 := blk_frozen q4 0
    have f41 := blk_frozen q4 1
    have f50 := blk_frozen q5 0
    have f60 := blk_frozen q6 0
    have HB := Aside0.mk hB
    have Q4 := Aside0.mk q4
    have Q5 := Aside0.mk q5
    have Q6 := Aside0.mk q6
    have HK := Aside0.mk hK
    clear hB q2 q3 q4 q5 q6 hK
    gi_wp2
    have hK' := ((((KeepsOthers.setCell W ⟨w.heap.size + 1 + 1, 0, none⟩ (.slice A xs.length c)).trans (KeepsOthers.setCell _ ⟨w.heap.size + 1 + 1, 1, none⟩ (.int .i64 last))).trans (KeepsOthers.setCell _ ⟨w.heap.size + 1 + 1 + 1, 0, none⟩ (.int .i64 0))).trans (KeepsOthers.setCell _ ⟨w.heap.size + 1 + 1 + 1 + 1, 0, none⟩ (.int .i64 4))).same D _ HK.out rfl
    refine ⟨by simp, .inl ⟨_, _, rfl, run_takeDeferred hK', ?_⟩⟩
    have hr : ∀ r, some D = some r → ∃ o : Obj, ((((W.setCell ⟨w.heap.size + 1 + 1, 0, none⟩ (.slice A xs.length c)).setCell ⟨w.heap.size + 1 + 1, 1, none⟩ (.int .i64 last)).setCell ⟨w.heap.size + 1 + 1 + 1, 0, none⟩ (.int .i64 0)).setCell ⟨w.heap.size + 1 + 1 + 1 + 1, 0, none⟩ (.int .i64 4)).heap[r]? = some o ∧ o.isCells = false := fun r e => by cases e; exact ⟨_, hK', rfl⟩
    have e4 := blk_own82 ((Below.heap_setCell _ _ _ _ (by dsimp only; omega)).trans ((Below.heap_setCell _ _ _ _ (by dsimp only; omega)).trans (blk_put (cs := #[.slice A xs.length c, .int .i64 0]) (blk_put (cs := #[.slice none 0 0, .int .i64 0]) Q4.out 0 (.slice A xs.length c) rfl) 1 (.int .i64 last) rfl))) (grownBy_putObj' _ D (.deferred none)) hr
    have e5 := blk_own82 ((Below.heap_setCell _ _ _ _ (by dsimp only; omega)).trans (blk_put (cs := #[.int .i64 0]) ((Below.heap_setCell _ _ _ _ (by dsimp only; omega)).trans ((Below.heap_setCell _ _ _ _ (by dsimp only; omega)).trans Q5.out)) 0 (.int .i64 0) rfl)) (grownBy_putObj' _ D (.deferred none)) hr
    have e6 := blk_own82 (blk_put (cs := #[.int .i64 0]) ((Below.heap_setCell _ _ _ _ (by dsimp only; omega)).trans ((Below.heap_setCell _ _ _ _ (by dsimp only; omega)).trans ((Below.heap_setCell _ _ _ _ (by dsimp only; omega)).trans Q6.out))) 0 (.int .i64 4) rfl) (grownBy_putObj' _ D (.deferred none)) hr
    have hbf := ((((HB.out.setCell (p := ⟨w.heap.size + 1 + 1, 0, none⟩) (by dsimp only; omega) (.slice A xs.length c)).setCell (p := ⟨w.heap.size + 1 + 1, 1, none⟩) (by dsimp only; omega) (.int .i64 last)).setCell (p := ⟨w.heap.size + 1 + 1 + 1, 0, none⟩) (by dsimp only; omega) (.int .i64 0)).setCell (p := ⟨w.heap.size + 1 + 1 + 1 + 1, 0, none⟩) (by dsimp only; omega) (.int .i64 4)).trans (belowK_b (w := w) (Nat.le_refl _) _ D _ (.deferred none) (by rw [HS.out] at hD; omega) hK' rfl rfl)
    exact ⟨_, results_take82 _ _ _ _ _ _ _ _ _ rfl rfl rfl e4 e5 e6, _, rfl, Kd.V_mono (Kd.V_below HV.out hbf) (fun k hk => .inl hk), hbf⟩
  case stop =>
    rintro D c' pre W hD hpre ⟨⟨rfl, x, v0, rfl, q4, q5, q6, hR⟩, hB⟩ hK
    obtain ⟨i, hxi, hil, hfr⟩ := inS_first82 hpre
    have hxv : x.val = i := Int.ofNat.inj hxi
    subst hxv
    have hf := HF.out
    rw [hfr] at hf
    simp only [Prod.mk.injEq] at hf
    obtain ⟨e1, e2, e3⟩ := hf
    have E1 := Aside0.mk e1
    have E2 := Aside0.mk e2
    have E3 := Aside0.mk e3
    clear e1 e2 e3
    have HB := Aside0.mk hB
    have HRR := Aside0.mk hR
    have Q4 := Aside0.mk q4
    have Q5 := Aside0.mk q5
    have Q6 := Aside0.mk q6
    have HK := Aside0.mk hK
    clear hB q4 q5 q6 hK hR
    gi_wp2
    refine ⟨by simp, .inl ⟨_, _, rfl, run_takeDeferred HK.out, ?_⟩⟩
    have hr : ∀ r, some D = some r → ∃ o : Obj, W.heap[r]? = some o ∧ o.isCells = false := fun r e => by cases e; exact ⟨_, HK.out, rfl⟩
    have e4 := blk_own82 Q4.out (grownBy_putObj' _ D (.deferred none)) hr
    have e5 := blk_own82 Q5.out (grownBy_putObj' _ D (.deferred none)) hr
    have e6 := blk_own82 Q6.out (grownBy_putObj' _ D (.deferred none)) hr
    exact ⟨_, results_take82 _ _ _ _ _ _ _ _ _ rfl rfl rfl e4 e5 e6, _, by rw [← E2.out, ← E3.out], by rw [← E1.out]; exact Kd.R_V (Kd.R_mono (R_own82 HRR.out (grownBy_putObj' _ D (.deferred none)) hr) (fun k hk => .inr hk)), HB.out.trans (belowK_b (w := w) (Nat.le_refl _) W D _ _ (by rw [HS.out] at hD; omega) HK.out rfl rfl)⟩
theorem fnd_at82 (l : List SR) (h : Int) : ((fnd SR.f0 SR.f1 l h).2 = 0 ∧ ∃ i : Nat, i < l.length ∧ (fnd SR.f0 SR.f1 l h).1 = (i : Int)) ∨ (fnd SR.f0 SR.f1 l h).2 ≠ 0 := by
  have hlt : ∀ s i, fdIn SR.f0 SR.f1 l s h = some i → i < l.length := fun s i e => by
    have := List.mem_of_find?_eq_some e
    simpa using this
  by_cases hz : h = 0
  · right; unfold fnd; rw [if_pos hz]; decide
  · cases h1 : fdIn SR.f0 SR.f1 l 1 h with
    | some i => left; rw [fnd_a82 hz h1]; exact ⟨rfl, i, hlt _ _ h1, rfl⟩
    | none =>
      cases h2 : fdIn SR.f0 SR.f1 l 2 h with
      | some i => left; rw [fnd_b82 hz h1 h2]; exact ⟨rfl, i, hlt _ _ h2, rfl⟩
      | none => right; rw [fnd_c82 hz h1 h2]; decide
set_option maxRecDepth 100000 in
set_option maxHeartbeats 4000000 in
theorem found82_c (fd : Nat) (caps : Array Value) (heg : ∀ args w, (callFunc fd args).run Try.prog w = .ok (.enter fd args) w) (P0 : Nat → Prop) (A : Option Addr) (c : Nat) (xs : List SR) (last h : Int) (hbig : xs.length ≤ 1000000) (y : Nat → SR) (w : World) (hV : Kd.V kR 82 w w.heap.size (fun k => P0 k) (.slice A xs.length c) xs)
    (hdo : ∀ wT : World, Below w.heap.size w wT → ∀ i, i < xs.length → ∀ (W : World) (g cap : Nat), Below wT.heap.size wT W → wT.heap.size ≤ g → Kd.R kR 82 W wT.heap.size (fun k => wT.heap.size ≤ k) (.slice (some ⟨g, 0, none⟩) xs.length cap) xs →
      Calls Try.prog fd (#[.pointer (some ⟨g, i * 8, none⟩)] ++ caps) W fun e W' => (∃ v, e = .returned v) ∧ Kd.R kR 82 W' wT.heap.size (fun k => wT.heap.size ≤ k) (.slice (some ⟨g, 0, none⟩) xs.length cap) (xs.set i (y i)) ∧ KeepBut W W' g none ∧ Below wT.heap.size W W') :
    Calls Try.prog 90 #[.agg #[.slice A xs.length c, .int .i64 last], .int .i64 h, .func (.func fd) #[] caps] w fun e w' => ∃ A' c', e = .returned (.tuple #[.agg #[.slice A' xs.length c', .int .i64 last], .int .i64 (fnd SR.f0 SR.f1 xs h).2]) ∧ Kd.V kR 82 w' w.heap.size (fun k => P0 k ∨ w.heap.size ≤ k) (.slice A' xs.length c') (if (fnd SR.f0 SR.f1 xs h).2 = 0 then xs.set (fnd SR.f0 SR.f1 xs h).1.toNat (y (fnd SR.f0 SR.f1 xs h).1.toNat) else xs) ∧ Below w.heap.size w w' := by
  have HV := Aside0.mk hV
  have HC := Aside0.mk (Kd.V_reads' hV).2.2
  have HD := Aside0.mk hdo
  have HBIG := Aside0.mk hbig
  have HB0 := Aside0.mk (((Below.refl w.heap.size w).alloc (Nat.le_refl _) (.cells #[.slice A xs.length c, .int .i64 last] 24)).alloc (by simp) (.cells #[.slice none 0 0, .int .i64 0] 24))
  have HK0 := Aside0.mk (show ((w.alloc (.cells #[.slice A xs.length c, .int .i64 last] 24)).alloc (.cells #[.slice none 0 0, .int .i64 0] 24)).heap[w.heap.size]? = some (.cells #[.slice A xs.length c, .int .i64 last] 24 (0, 0)) from blk_alloc (blk_new w _) _)
  have HK1 := Aside0.mk (show ((w.alloc (.cells #[.slice A xs.length c, .int .i64 last] 24)).alloc (.cells #[.slice none 0 0, .int .i64 0] 24)).heap[w.heap.size + 1]? = some (.cells #[.slice none 0 0, .int .i64 0] 24 (0, 0)) by have h := blk_new (w.alloc (.cells #[.slice A xs.length c, .int .i64 last] 24)) (.cells #[.slice none 0 0, .int .i64 0] 24); rw [World.size_alloc] at h; exact h)
  clear hV hdo hbig
  obtain ⟨r1, hr1⟩ : ∃ r, r = (fnd SR.f0 SR.f1 xs h).1 := ⟨_, rfl⟩
  obtain ⟨r2, hr2⟩ : ∃ r, r = (fnd SR.f0 SR.f1 xs h).2 := ⟨_, rfl⟩
  have hat := fnd_at82 xs h
  rw [← hr1, ← hr2] at hat ⊢
  have HR1 := Aside0.mk hr1
  have HR2 := Aside0.mk hr2
  clear hr1 hr2
  rcases hat with ⟨rfl, i, hi, rfl⟩ | hne
  · go_enter Try.func90, Try.ntmps90
    go_wp2_with (first | (go_at_call 94; refine (findw82 A c xs last h HBIG.out _ (Kd.C_below HC.out HB0.out)).mono ?_; rintro e w1 ⟨rfl, hb⟩; rw [← HR1.out, ← HR2.out]; have BK0 := Aside0.mk (blk_below HK0.out hb); have BK1 := Aside0.mk (blk_below HK1.out hb); have HB1 := Aside0.mk (HB0.out.trans (hb.mono (Nat.le_trans (Nat.le_add_right _ 2) (by simp)))); have c00 := (blk_cell BK0.out 0).trans rfl; have c01 := (blk_cell BK0.out 1).trans rfl; clear hb) | (go_at_call 104; refine (turn82_c fd caps heg A c xs last i hi (y i) _ HBIG.out (Kd.C_below HC.out HB1.out) (fun W g cap => HD.out _ HB1.out i hi W g cap)).mono ?_; rintro e w2 ⟨g, cap, rfl, hR, hb⟩; have R2 := Aside0.mk (blk_below BK1.out hb); have HRR := Aside0.mk hR; have HB2 := Aside0.mk (HB1.out.trans (hb.mono HB1.out.size)); have HS1 := Aside0.mk HB1.out.size; have d0 := (blk_cell R2.out 0).trans rfl; have d1 := (blk_cell R2.out 1).trans rfl; have df0 := blk_frozen R2.out 0; have df1 := blk_frozen R2.out 1; clear hR hb))
    have hT : ∀ q, q ∈ 82 :: kR.E → q ≠ 24 := fun q hq => by have h0 : kR.E = [] := rfl; rw [h0] at hq; simp at hq; omega
    have b0 := blk_put (cs := #[.slice none 0 0, .int .i64 0]) (cs' := #[.slice (some ⟨g, 0, none⟩) xs.length cap, .int .i64 0]) R2.out 0 (.slice (some ⟨g, 0, none⟩) xs.length cap) rfl
    have b1 := blk_put (cs := #[.slice (some ⟨g, 0, none⟩) xs.length cap, .int .i64 0]) (cs' := #[.slice (some ⟨g, 0, none⟩) xs.length cap, .int .i64 last]) b0 1 (.int .i64 last) rfl
    refine bodyPost_ret (results_ct rfl _ _ (w.heap.size + 1) 24 #[.slice (some ⟨g, 0, none⟩) xs.length cap, .int .i64 last] (0, 0) _ rfl b1 Try.underlying24 rfl (by kernel_rfl)) rfl ?_
    have a2 := Kd.R_set (Kd.R_set HRR.out R2.out hT 0 (.slice (some ⟨g, 0, none⟩) xs.length cap)) b0 hT 1 (.int .i64 last)
    exact ⟨_, _, rfl, Kd.R_V (Kd.R_mono a2 (fun k hk => .inr (Nat.le_trans HS1.out hk))), (HB2.out.setCell (p := ⟨w.heap.size + 1, 0, none⟩) (by simp) _).setCell (p := ⟨w.heap.size + 1, 1, none⟩) (by simp) _⟩
  · have hnb : decide (r2 = 0) = false := decide_eq_false hne
    have hnc : (r2 == 0) = false := by simpa using hne
    rw [if_neg hne]
    go_enter Try.func90, Try.ntmps90
    go_wp2_with (go_at_call 94; refine (findw82 A c xs last h HBIG.out _ (Kd.C_below HC.out HB0.out)).mono ?_; rintro e w1 ⟨rfl, hb⟩; rw [← HR1.out, ← HR2.out]; have BK0 := Aside0.mk (blk_below HK0.out hb); have BK1 := Aside0.mk (blk_below HK1.out hb); have HB1 := Aside0.mk (HB0.out.trans (hb.mono (Nat.le_trans (Nat.le_add_right _ 2) (by simp)))); have c00 := (blk_cell BK0.out 0).trans rfl; have c01 := (blk_cell BK0.out 1).trans rfl; clear hb; have d0 := (blk_cell BK1.out 0).trans rfl; have d1 := (blk_cell BK1.out 1).trans rfl; have df0 := blk_frozen BK1.out 0; have df1 := blk_frozen BK1.out 1)
    have b0 := blk_put (cs := #[.slice none 0 0, .int .i64 0]) (cs' := #[.slice A xs.length c, .int .i64 0]) BK1.out 0 (.slice A xs.length c) rfl
    have b1 := blk_put (cs := #[.slice A xs.length c, .int .i64 0]) (cs' := #[.slice A xs.length c, .int .i64 last]) b0 1 (.int .i64 last) rfl
    refine bodyPost_ret (results_ct rfl _ _ (w.heap.size + 1) 24 #[.slice A xs.length c, .int .i64 last] (0, 0) _ rfl b1 Try.underlying24 rfl (by kernel_rfl)) rfl ?_
    have hbf := (HB1.out.setCell (p := ⟨w.heap.size + 1, 0, none⟩) (by simp) (.slice A xs.length c)).setCell (p := ⟨w.heap.size + 1, 1, none⟩) (by simp) (.int .i64 last)
    exact ⟨_, _, rfl, Kd.V_mono (Kd.V_below HV.out hbf) (fun k hk => .inl hk), hbf⟩
set_option maxRecDepth 100000 in
set_option maxHeartbeats 4000000 in
theorem setw82 (P0 : Nat → Prop) (A : Option Addr) (c : Nat) (xs : List SR) (last h : Int) (v : RO) (hbig : xs.length ≤ 1000000) (w : World) (hV : Kd.V kR 82 w w.heap.size (fun k => P0 k) (.slice A xs.length c) xs) :
    Calls Try.prog 55 #[.agg #[.slice A xs.length c, .int .i64 last], .int .i64 h, .agg #[.int .i64 v.ser, .int .i64 v.str, .int .i64 v.wk, .int .i64 v.pr, .bool v.sd, .slice v.fa v.fn v.fc]] w fun e w' => ∃ A' c', e = .returned (.tuple #[.agg #[.slice A' xs.length c', .int .i64 last], .int .i64 (fnd SR.f0 SR.f1 xs h).2]) ∧ Kd.V kR 82 w' w.heap.size (fun k => P0 k ∨ w.heap.size ≤ k) (.slice A' xs.length c') (if (fnd SR.f0 SR.f1 xs h).2 = 0 then xs.set (fnd SR.f0 SR.f1 xs h).1.toNat ⟨(xs.getD (fnd SR.f0 SR.f1 xs h).1.toNat zR).f0, (xs.getD (fnd SR.f0 SR.f1 xs h).1.toNat zR).f1, v⟩ else xs) ∧ Below w.heap.size w w' := by
  obtain ⟨rr, hrr⟩ : ∃ rr : List SR, rr = (if (fnd SR.f0 SR.f1 xs h).2 = 0 then xs.set (fnd SR.f0 SR.f1 xs h).1.toNat ⟨(xs.getD (fnd SR.f0 SR.f1 xs h).1.toNat zR).f0, (xs.getD (fnd SR.f0 SR.f1 xs h).1.toNat zR).f1, v⟩ else xs) := ⟨_, rfl⟩
  obtain ⟨r2, hr2⟩ : ∃ r2 : Int, r2 = (fnd SR.f0 SR.f1 xs h).2 := ⟨_, rfl⟩
  rw [← hrr, ← hr2]
  obtain ⟨W0, hW0⟩ : ∃ W0, ((w.alloc (.cells #[.slice A xs.length c, .int .i64 last] 24)).alloc (.cells #[.int .i64 v.ser, .int .i64 v.str, .int .i64 v.wk, .int .i64 v.pr, .bool v.sd, .slice v.fa v.fn v.fc] 29)).alloc (.cells #[.slice none 0 0, .int .i64 0] 24) = W0 := ⟨_, rfl⟩
  have HB0 := Aside0.mk (show Below w.heap.size w W0 by rw [← hW0]; exact (((Below.refl w.heap.size w).alloc (Nat.le_refl _) _).alloc (by simp) _).alloc (by simp; omega) _)
  have HZ := Aside0.mk (show W0.heap.size = w.heap.size + 1 + 1 + 1 by rw [← hW0]; simp)
  have b3 : W0.heap[w.heap.size + 1]? = some (.cells #[.int .i64 v.ser, .int .i64 v.str, .int .i64 v.wk, .int .i64 v.pr, .bool v.sd, .slice v.fa v.fn v.fc] 29 (0, 0)) := by rw [← hW0]; refine blk_alloc ?_ _; have h := blk_new (w.alloc (.cells #[.slice A xs.length c, .int .i64 last] 24)) (.cells #[.int .i64 v.ser, .int .i64 v.str, .int .i64 v.wk, .int .i64 v.pr, .bool v.sd, .slice v.fa v.fn v.fc] 29); rw [World.size_alloc] at h; exact h
  have B6 := Aside0.mk (show W0.heap[w.heap.size + 1 + 1]? = some (.cells #[.slice none 0 0, .int .i64 0] 24 (0, 0)) by rw [← hW0]; have h := blk_new ((w.alloc (.cells #[.slice A xs.length c, .int .i64 last] 24)).alloc (.cells #[.int .i64 v.ser, .int .i64 v.str, .int .i64 v.wk, .int .i64 v.pr, .bool v.sd, .slice v.fa v.fn v.fc] 29)) (.cells #[.slice none 0 0, .int .i64 0] 24); rw [World.size_alloc, World.size_alloc] at h; exact h)
  have hlt := blk_lt b3
  have ht := (found82_c 91 #[.pointer (some ⟨w.heap.size + 1, 0, none⟩)] (enters_of Try.func91 (by kernel_rfl) rfl) (fun k => P0 k ∧ k < w.heap.size) A c xs last h hbig (fun i => ⟨(xs.getD i zR).f0, (xs.getD i zR).f1, v⟩) W0 (Kd.V_map (Kd.V_below (Kd.V_bound hV) HB0.out) (fun _ hf => hf))
    (fun wT hb i hi W g cap hB hg hR => set182_do wT (w.heap.size + 1) (Nat.lt_of_lt_of_le hlt hb.size) v (blk_below b3 hb) xs i hi W g cap hB hg hR))
  rw [← hrr, ← hr2] at ht
  have HT := Aside0.mk ht
  have HW := Aside0.mk hW0
  clear ht hrr hr2
  clear hV b3 hlt hW0
  go_enter Try.func55, Try.ntmps55
  go_wp2_with (go_at_call 90; rw [HW.out]; refine HT.out.mono ?_; rintro e w1 ⟨A', c', rfl, hV1, hb⟩; have R6 := Aside0.mk (blk_below B6.out hb); have HV1 := Aside0.mk hV1; have HB1 := Aside0.mk (HB0.out.trans (hb.mono HB0.out.size)); have d0 := (blk_cell R6.out 0).trans rfl; have d1 := (blk_cell R6.out 1).trans rfl; have df0 := blk_frozen R6.out 0; have df1 := blk_frozen R6.out 1; clear hV1 hb)
  have b0 := blk_put (cs := #[.slice none 0 0, .int .i64 0]) (cs' := #[.slice A' xs.length c', .int .i64 0]) R6.out 0 (.slice A' xs.length c') rfl
  have b1 := blk_put (cs := #[.slice A' xs.length c', .int .i64 0]) (cs' := #[.slice A' xs.length c', .int .i64 last]) b0 1 (.int .i64 last) rfl
  refine bodyPost_ret (results_ct rfl _ _ (w.heap.size + 1 + 1) 24 #[.slice A' xs.length c', .int .i64 last] (0, 0) _ rfl b1 Try.underlying24 rfl (by kernel_rfl)) rfl ?_
  have hbf := (HB1.out.setCell (p := ⟨w.heap.size + 1 + 1, 0, none⟩) (by dsimp only; omega) (.slice A' xs.length c')).setCell (p := ⟨w.heap.size + 1 + 1, 1, none⟩) (by dsimp only; omega) (.int .i64 last)
  have hz := HZ.out
  have hv1 := Kd.V_far (p := ⟨w.heap.size + 1 + 1, 1, none⟩) (Kd.V_far (p := ⟨w.heap.size + 1 + 1, 0, none⟩) HV1.out (fun k hk => by dsimp only; rcases hk with hk | hk <;> omega) (.slice A' xs.length c')) (fun k hk => by dsimp only; rcases hk with hk | hk <;> omega) (.int .i64 last)
  exact ⟨_, _, rfl, Kd.V_map (Kd.V_mono hv1 (fun k hk => by rcases hk with hk | hk; exact .inl hk.1; exact .inr (by omega))) (fun _ hf => hf), hbf⟩
end Go.Proofs.Ytkmjboeabmmecaa.MAll
