/- The row ReferencesTrim. No condition. -/
import Derived.Test.YtohdkmgnnncpkaaRows
import Derived.Test.YtohdkmgnnncpkaaF
import Derived.Test.YtohdkmgnnncpkaaC7
namespace Go.Proofs.Ytohdkmgnnncpkaa
open Go.ChangeShapes Go.WideShapes Go.ChangeAt Go.RowKit
theorem Try.own : ownKnob Try.prog.godebug = none := by kernel_rfl
theorem Try.laidOut : laidOutB Try.prog = true := by kernel_rfl
theorem cells38 : Try.prog.cellsOf 38 = 32 := by kernel_rfl
theorem cells5 : Try.prog.cellsOf 5 = 1 := by kernel_rfl
theorem bytes38 : Try.prog.bytesOf 38 = 32 := by kernel_rfl
/-- An argument of type []Identity. -/
theorem open_ids {H : Type} {enc : TypeId × Value → H} {W : World} {base : Nat} {ts : List TypeId} {ds : List (DataW H)} {j : Nat} {v : Value} {d : DataW H} {p : List MemPlace} (hval : Value.okWide Try.prog W .any base 22 v)
    (h : DataW.Trod enc Try.prog W 0 (fun _ => true) true 22 v d p) (hsz : (DataW.weightsEach Try.prog ts ds).all (· ≤ reachBytes) = true) (ht : ts[j]? = some 22) (hd : ds[j]? = some d) :
    ∃ l : List Id, Ids W v l ∧ l.length * 32 ≤ 140737488351232 := by
  obtain ⟨fuel, hf⟩ := h
  obtain ⟨l, hl, hlen⟩ := open_arrs Try.underlying22 Try.underlying38 Try.underlying5 (by omega) cells38 cells5 (okWide_slice Try.underlying22 hval) hf
  refine ⟨l, hl, ?_⟩
  rcases hlen with rfl | ⟨elems, spare, e, he⟩
  · simp
  · simp only at e
    subst e
    have := sized_slice hsz ht hd Try.underlying22
    rw [bytes38, he] at this
    unfold reachBytes at this
    have h2 : l.length * 32 ≤ (l.length + spare.length) * 32 := Nat.mul_le_mul_right _ (Nat.le_add_right _ _)
    omega
theorem readable_of {ts : List TypeId} (h : (ts.all fun t => Try.prog.readableRec t && decide (t < Try.prog.types.size)) = true) : ∀ t ∈ ts, Try.prog.readableRec t = true ∧ t < Try.prog.types.size := by
  intro t ht
  have := List.all_eq_true.1 h t ht
  simpa using this
set_option maxRecDepth 100000 in
theorem trim_lifted (os : Os) (started : os.Started) (H : Type) (enc : TypeId × Value → H) :
    ReturnsInHanded {} Try.checked os 3 .any (Rows.referencesTrimSpec.pre6 enc Try.prog Try.f3 Rows.referencesTrimRow.domain false) (Rows.referencesTrimSpec.post enc Try.prog Try.f3 false true false false) := by
  refine returnsInHanded_of_change_sized (C := Try.checked) Try.own started (by kernel_rfl) Try.func3
    (ChangeSpec.witness6 (enc := enc) (C := Try.checked) false ⟨#[], #[.slice none 0 0, .int .i64 0, .int .i64 0], []⟩ 8 (by kernel_rfl) (by kernel_rfl) (by kernel_rfl) (by kernel_rfl)) ?_
  intro W base args ds gs before hval0 hW _ hsz0 _
  have hsz : (DataW.weightsEach Try.prog (Try.f3.params.toList ++ Rows.referencesTrimSpec.plain.varTypes Try.prog) (ds ++ gs)).all (· ≤ reachBytes) = true := hsz0
  have hval : ∀ (j : Nat) t v, Try.f3.params[j]? = some t → args[j]? = some v → Value.okWide Try.prog W .any base t v := hval0
  have hW' := hW
  obtain ⟨p, q, hA0, hV, rfl, _, _⟩ := hW
  have hA : DataW.TrodAll enc Try.prog W 0 (fun _ => true) true Try.f3.params.toList args.toList ds p := hA0
  rw [Try.params3] at hA hval hsz
  obtain ⟨v0, v1, v2, d0, d1, d2, p0, p1, p2, rfl, rfl, rfl, h0, h1, h2⟩ := trodAll_three hA
  obtain ⟨rfl, rfl⟩ := trodVars_none hV
  obtain ⟨m, rfl, rfl, rfl, _⟩ := open_int Try.underlying3 (hval 1 3 v1 rfl rfl) h1
  obtain ⟨n, rfl, rfl, rfl, _⟩ := open_int Try.underlying3 (hval 2 3 v2 rfl rfl) h2
  obtain ⟨l, hl, hlen⟩ := open_ids (hval 0 22 v0 rfl rfl) h0 hsz (j := 0) rfl rfl
  refine (law_trim W v0 l hl (by omega) m n).mono fun e W' ⟨he, hb⟩ => ?_
  exact ⟨_, he, post_true (tb := 4) Try.laidOut (readable_of (by kernel_rfl)) (by kernel_rfl) Try.underlying4 hW' rfl rfl hb⟩
theorem ReferencesTrim_holds : Rows.ReferencesTrimSaid :=
  OpenClaim.holds_of_wide 3 Try.f3 rfl rfl rfl rfl rfl rfl rfl ⟨rfl, rfl, rfl, rfl, rfl⟩ rfl rfl rfl rfl rfl (by kernel_rfl) Try.func3 (by kernel_rfl)
    (of_decide_eq_true (by kernel_rfl)) (by unfold Func.isWrapper; rw [if_neg (by decide +kernel)]; exact ⟨rfl, rfl⟩)
    (fun os started H enc _ => trim_lifted os started H enc)
end Go.Proofs.Ytohdkmgnnncpkaa
