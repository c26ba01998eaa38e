/- From the walks of the references' laws to their rows: what is alike. No condition. -/
import Derived.Test.YtohdkmgnnncpkaaRows
import Derived.Test.YtohdkmgnnncpkaaF
import Derived.Test.YtohdkmgnnncpkaaC1
set_option linter.unusedSimpArgs false
set_option linter.unusedVariables false
namespace Go.Proofs.Ytohdkmgnnncpkaa
open Go.ChangeShapes Go.WideShapes Go.ChangeAt Go.RowKit
theorem Try.own : ownKnob Try.prog.godebug = none := by kernel_rfl
theorem Try.laidOut : laidOutB Try.prog = true := by kernel_rfl
theorem cells38 : Try.prog.cellsOf 38 = 32 := by kernel_rfl
theorem cells5 : Try.prog.cellsOf 5 = 1 := by kernel_rfl
theorem bytes38 : Try.prog.bytesOf 38 = 32 := by kernel_rfl
/-- An argument of type []Identity. -/
theorem open_ids {H : Type} {enc : TypeId × Value → H} {W : World} {base : Nat} {ts : List TypeId} {ds : List (DataW H)} {j : Nat} {v : Value} {d : DataW H} {p : List MemPlace} (hval : Value.okWide Try.prog W .any base 22 v)
    (h : DataW.Trod enc Try.prog W 0 (fun _ => true) true 22 v d p) (hsz : (DataW.weightsEach Try.prog ts ds).all (· ≤ reachBytes) = true) (ht : ts[j]? = some 22) (hd : ds[j]? = some d) :
    ∃ l : List Id, Ids W v l ∧ l.length * 32 ≤ 140737488351232 := by
  obtain ⟨fuel, hf⟩ := h
  obtain ⟨l, hl, hlen⟩ := open_arrs Try.underlying22 Try.underlying38 Try.underlying5 (by omega) cells38 cells5 (okWide_slice Try.underlying22 hval) hf
  refine ⟨l, hl, ?_⟩
  rcases hlen with rfl | ⟨elems, spare, e, he⟩
  · simp
  · simp only at e
    subst e
    have := sized_slice hsz ht hd Try.underlying22
    rw [bytes38, he] at this
    unfold reachBytes at this
    have h2 : l.length * 32 ≤ (l.length + spare.length) * 32 := Nat.mul_le_mul_right _ (Nat.le_add_right _ _)
    omega
theorem readable_of {ts : List TypeId} (h : (ts.all fun t => Try.prog.readableRec t && decide (t < Try.prog.types.size)) = true) : ∀ t ∈ ts, Try.prog.readableRec t = true ∧ t < Try.prog.types.size := by
  intro t ht
  have := List.all_eq_true.1 h t ht
  simpa using this
theorem open_id {H : Type} {enc : TypeId × Value → H} {W : World} {base : Nat} {v : Value} {d : DataW H} {p : List MemPlace} (hval : Value.okWide Try.prog W .any base 38 v)
    (h : DataW.Trod enc Try.prog W 0 (fun _ => true) true 38 v d p) : ∃ x : Id, v = x.val := by
  obtain ⟨fuel, hf⟩ := h
  obtain ⟨x, hx⟩ := open_bytes Try.underlying38 Try.underlying5 cells38 cells5 hf
  simp only [Value.okWide, Try.underlying38] at hval
  obtain ⟨cs, rfl, _⟩ := hval
  refine ⟨x, ?_⟩
  simp only [Value.cells] at hx
  unfold Arr.val
  rw [← hx, Array.toArray_toList]
end Go.Proofs.Ytohdkmgnnncpkaa
