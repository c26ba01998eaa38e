/- The row ReferencesChain. No condition. -/
import Derived.Test.YtohdkmgnnncpkaaL0
import Derived.Test.YtohdkmgnnncpkaaC15
namespace Go.Proofs.Ytohdkmgnnncpkaa
open Go.ChangeShapes Go.WideShapes Go.ChangeAt Go.RowKit
set_option maxRecDepth 100000 in
theorem referencesChain_lifted (os : Os) (started : os.Started) (H : Type) (enc : TypeId × Value → H) :
    ReturnsInHanded {} Try.checked os 7 .any (Rows.referencesChainSpec.pre6 enc Try.prog Try.f7 Rows.referencesChainRow.domain false) (Rows.referencesChainSpec.post enc Try.prog Try.f7 false true false false) := by
  refine returnsInHanded_of_change_sized (C := Try.checked) Try.own started (by kernel_rfl) Try.func7
    (ChangeSpec.witness6 (enc := enc) (C := Try.checked) false ⟨#[], #[.int .u8 0], []⟩ 8 (by kernel_rfl) (by kernel_rfl) (by kernel_rfl) (by kernel_rfl)) ?_
  intro W base args ds gs before hval0 hW _ hsz0 _
  have hsz : (DataW.weightsEach Try.prog (Try.f7.params.toList ++ Rows.referencesChainSpec.plain.varTypes Try.prog) (ds ++ gs)).all (· ≤ reachBytes) = true := hsz0
  have hval : ∀ (j : Nat) t v, Try.f7.params[j]? = some t → args[j]? = some v → Value.okWide Try.prog W .any base t v := hval0
  have hW' := hW
  obtain ⟨p, q, hA0, hV, rfl, _, _⟩ := hW
  have hA : DataW.TrodAll enc Try.prog W 0 (fun _ => true) true Try.f7.params.toList args.toList ds p := hA0
  rw [Try.params7] at hA hval hsz
  obtain ⟨v0, d0, rfl, rfl, h0⟩ := trodAll_one hA
  obtain ⟨rfl, rfl⟩ := trodVars_none hV
  obtain ⟨b, rfl, rfl, rfl, wb⟩ := open_int Try.underlying5 (hval 0 5 v0 rfl rfl) h0
  have hb0 : 0 ≤ b ∧ b ≤ 255 := by
    have e1 : IntKind.u8.min = 0 := rfl
    have e2 : IntKind.u8.max = 255 := rfl
    simp only [Lit.wf, Bool.and_eq_true, decide_eq_true_eq] at wb
    omega
  have eb : b = ((b.toNat : Nat) : Int) := by omega
  have hcall := law_chain W b.toNat (by omega)
  rw [← eb] at hcall
  refine hcall.mono fun e W' ⟨he, hb⟩ => ?_
  exact ⟨_, he, post_true (tb := 4) Try.laidOut (readable_of (by kernel_rfl)) (by kernel_rfl) Try.underlying4 hW' rfl rfl hb⟩
theorem ReferencesChain_holds : Rows.ReferencesChainSaid :=
  OpenClaim.holds_of_wide 7 Try.f7 rfl rfl rfl rfl rfl rfl rfl ⟨rfl, rfl, rfl, rfl, rfl⟩ rfl rfl rfl rfl rfl (by kernel_rfl) Try.func7 (by kernel_rfl)
    (of_decide_eq_true (by kernel_rfl)) (by unfold Func.isWrapper; rw [if_neg (by decide +kernel)]; exact ⟨rfl, rfl⟩)
    (fun os started H enc _ => referencesChain_lifted os started H enc)
end Go.Proofs.Ytohdkmgnnncpkaa
