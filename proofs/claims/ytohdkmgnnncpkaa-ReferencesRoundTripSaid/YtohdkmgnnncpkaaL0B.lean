/- An argument that is a slice of bools. No condition. -/
import Derived.Test.YtohdkmgnnncpkaaL0
import Derived.Test.YtohdkmgnnncpkaaTX14
import Derived.Deep.Matrix
set_option linter.unusedSimpArgs false
set_option linter.unusedVariables false
namespace Go.Proofs.Ytohdkmgnnncpkaa
open Go.ChangeShapes Go.WideShapes Go.ChangeAt Go.RowKit
theorem cells4 : Try.prog.cellsOf 4 = 1 := by kernel_rfl
theorem open_bls {H : Type} {enc : TypeId × Value → H} {P : Program} {W : World} {ts e : TypeId} {base : Nat} {fuel : Nat} {v : Value} {x : DataW H × List MemPlace} (hs : P.underlying ts = some (.slice e)) (he : P.underlying e = some .bool)
    (hc1 : P.cellsOf e = 1) (hv : ∃ a len cap, v = .slice a len cap) (h : DataW.trod enc P W base (fun _ => true) true fuel ts v.cells.toList = some x) :
    ∃ l : List Bool, Sl W v 1 l.length (l.map Value.bool) := by
  obtain ⟨ao, len, cap, rfl⟩ := hv
  rcases Deep.open_slice hs h with ⟨hcs, _⟩ | ⟨a, len', cap', m, fu, D, Pl, hcs, _, hle, _, hm, rfl, hx⟩
  · simp [Value.cells] at hcs
    obtain ⟨rfl, rfl, rfl⟩ := hcs
    exact ⟨[], Sl.nil W 1⟩
  · simp [Value.cells] at hcs
    obtain ⟨rfl, rfl, rfl⟩ := hcs
    simp only [if_true] at hm
    subst hm
    have key : ∀ i, i < len → ∃ b : Bool, W.cell? (a.add i) = some (.bool b) := by
      intro i hi
      obtain ⟨cs', h1, h2⟩ := hx i (by omega)
      obtain ⟨z, hz, _⟩ := DataW.trod_bool he h2
      obtain ⟨_, _, h3⟩ := World.cells?_some h1
      rw [hc1, Nat.mul_one] at h3
      have h4 := h3 0 (by omega)
      rw [Deep.add_add, Nat.add_zero, hz] at h4
      exact ⟨z, h4⟩
    obtain ⟨g, hg⟩ := Deep.choose_lt key
    refine ⟨(List.range len).map g, ?_⟩
    refine ⟨some a, _, by rw [List.length_map, List.length_range], by simpa using hle, by simp, fun j u hu => ⟨a, rfl, ?_⟩⟩
    have hj : j < len := by have := (List.getElem?_eq_some_iff.1 hu).1; simpa using this
    rw [hg j hj, ← hu]
    simp [hj]
set_option maxRecDepth 100000 in
/-- An argument of type []bool. -/
theorem open_bools {H : Type} {enc : TypeId × Value → H} {W : World} {base : Nat} {v : Value} {d : DataW H} {p : List MemPlace} (hval : Value.okWide Try.prog W .any base 61 v)
    (h : DataW.Trod enc Try.prog W 0 (fun _ => true) true 61 v d p) : ∃ l : List Bool, Bools W v l := by
  obtain ⟨fuel, hf⟩ := h
  exact open_bls Try.underlying61 Try.underlying4 cells4 (okWide_slice Try.underlying61 hval) hf
end Go.Proofs.Ytohdkmgnnncpkaa
