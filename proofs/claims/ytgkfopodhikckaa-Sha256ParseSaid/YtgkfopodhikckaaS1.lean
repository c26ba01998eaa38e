/- right, RotateLeft32, rotate, round, plus, initial of sha256. No condition. -/
import Derived.Test.YtgkfopodhikckaaProg
import Derived.Test.YtgkfopodhikckaaV
set_option linter.unusedSimpArgs false
set_option linter.unusedVariables false
namespace Go.Proofs.Ytgkfopodhikckaa
open Go.RowKit
def rotr (x : W32) (n : Nat) : W32 := x >>> n ||| x <<< (32 - n)
def RetW (w : World) (x : W32) (e : Ending) (w' : World) : Prop := e = .returned (wrd x) ∧ Below w.heap.size w w'
theorem RetW.mk {w w' : World} {x y : W32} (h : x = y) (hb : Below w.heap.size w w') : RetW w y (.returned (wrd x)) w' := ⟨by rw [h], hb⟩
/-- The counts that occur. -/
def rotN (n : Int) : Prop := n = 2 ∨ n = 6 ∨ n = 7 ∨ n = 11 ∨ n = 13 ∨ n = 17 ∨ n = 18 ∨ n = 19 ∨ n = 22 ∨ n = 25
theorem or_rot (x : W32) (m n : Nat) (h : m + n = 32) : x <<< m ||| x >>> n = rotr x n := by
  unfold rotr; rw [BitVec.or_comm, show m = 32 - n by omega]
theorem rot_count {n : Int} (hn : rotN n) : bits .and .u64 (IntKind.u64.wrap (-n)) 31 = 32 - n ∧ 0 ≤ n ∧ n < 32 ∧ 0 ≤ 32 - n ∧ 32 - n < 32 := by
  rcases hn with rfl | rfl | rfl | rfl | rfl | rfl | rfl | rfl | rfl | rfl <;> decide
set_option maxHeartbeats 1000000 in
theorem rotl_any (w : World) (x : W32) (n : Int) (hn : rotN n) : Calls Try.prog 94 #[wrd x, .int .i64 (-n)] w (RetW w (rotr x n.toNat)) := by
  obtain ⟨e, h1, h2, h3, h4⟩ := rot_count hn
  clear hn
  have e2 : (32 : Int) - (32 - n) = n := by omega
  have HR := hid (show x <<< (32 - n).toNat ||| x >>> n.toNat = rotr x n.toNat from or_rot x _ _ (by omega))
  go_enter Try.func94, Try.ntmps94
  go_wp2_with (first
    | ((with_reducible apply wpL_wshl (n := 32 - n)); rfl; rfl; (exact ⟨h3, h4⟩); rfl)
    | ((with_reducible apply wpL_wshr (n := n)); rfl; rfl; (exact ⟨h1, h2⟩); rfl)
    | ((with_reducible apply wpL_wop); rfl; rfl; rfl; rfl))
  go_ret
  exact RetW.mk HR.out (Below.refl _ _)
set_option maxHeartbeats 1000000 in
theorem right_any (w : World) (x : W32) (n : Int) (hn : rotN n) : Calls Try.prog 89 #[wrd x, .int .i64 n] w (RetW w (rotr x n.toNat)) := by
  have HH := hid hn
  rcases hn with rfl | rfl | rfl | rfl | rfl | rfl | rfl | rfl | rfl | rfl
  all_goals
    go_enter Try.func89, Try.ntmps89
    go_wp2_with (go_at_call 94; refine (rotl_any _ x _ HH.out).mono ?_; rintro e w2 ⟨rfl, hb⟩; (have HB := hid hb; clear hb))
    go_ret
    exact RetW.mk rfl HB.out
end Go.Proofs.Ytgkfopodhikckaa
