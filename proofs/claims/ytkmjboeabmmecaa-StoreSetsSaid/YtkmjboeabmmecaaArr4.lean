/- '==' of arrays of whole numbers, and their elements at a known place, as the printed walks take them. Conditions: those of each lemma. -/
import Derived.Test.YtkmjboeabmmecaaProg
import Derived.ChangeKeysEq
import Derived.Test.YtkmjboeabmmecaaWWords
import Derived.Laws.StructEq
namespace Go.Proofs.Ytkmjboeabmmecaa.Arr4
open Go.RowKit
theorem eqi_nil {P : Program} {d e c : Nat} {xs ys : Array Value} {w : World} : (Op.eqItems d e c xs ys []).run P w = .ok true w := rfl
theorem eqi_cons {P : Program} {d e c i : Nat} {is : List Nat} {xs ys : Array Value} {a b : Value} {r s : Bool} {w : World} (ha : (part e xs (i * c)).run P w = .ok a w) (hb : (part e ys (i * c)).run P w = .ok b w) (he : (Op.equalIn d e a b).run P w = .ok r w)
    (hr : (Op.eqItems d e c xs ys is).run P w = .ok s w) : (Op.eqItems d e c xs ys (i :: is)).run P w = .ok (r && s) w := by
  rw [Op.eqItems]
  simp only [Sem.run_bind, ha, hb, he, Result.andThen_ok]
  cases r
  · simp
  · simpa using hr
set_option maxRecDepth 100000 in
theorem eqA122 (d : Nat) (w : World) (x0 y0 : Int) (x1 y1 : Int) (x2 y2 : Int) (x3 y3 : Int) :
    (Op.equalIn (d + 2) 122 (.agg #[.int .i64 x0, .int .i64 x1, .int .i64 x2, .int .i64 x3]) (.agg #[.int .i64 y0, .int .i64 y1, .int .i64 y2, .int .i64 y3])).run Try.prog w = .ok (x0 == y0 && (x1 == y1 && (x2 == y2 && (x3 == y3)))) w := by
  obtain ⟨i, hi⟩ : ∃ i, Try.prog.info? 3 = some i := ⟨_, rfl⟩
  have he : ∀ a b : Int, (Op.equalIn (d + 1) 3 (.int .i64 a) (.int .i64 b)).run Try.prog w = .ok (a == b) w := fun a b => by go_simp
  have hc : Try.prog.cellsOf 3 = 1 := by kernel_rfl
  rw [run_equalIn_array (P := Try.prog) w (d + 1) _ _ Try.underlying122 hi, hc]
  show (Op.eqItems (d + 1) 3 1 _ _ [0, 1, 2, 3]).run Try.prog w = _
  have h : (Op.eqItems (d + 1) 3 1 #[.int .i64 x0, .int .i64 x1, .int .i64 x2, .int .i64 x3] #[.int .i64 y0, .int .i64 y1, .int .i64 y2, .int .i64 y3] [0, 1, 2, 3]).run Try.prog w = .ok (x0 == y0 && (x1 == y1 && (x2 == y2 && ((x3 == y3 && true))))) w := eqi_cons (by kernel_rfl) (by kernel_rfl) (he x0 y0) (eqi_cons (by kernel_rfl) (by kernel_rfl) (he x1 y1) (eqi_cons (by kernel_rfl) (by kernel_rfl) (he x2 y2) (eqi_cons (by kernel_rfl) (by kernel_rfl) (he x3 y3) (eqi_nil))))
  rw [Bool.and_true] at h
  exact h
end Go.Proofs.Ytkmjboeabmmecaa.Arr4
