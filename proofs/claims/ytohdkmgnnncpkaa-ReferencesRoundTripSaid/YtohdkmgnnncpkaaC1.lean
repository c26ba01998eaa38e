/- Own and Same of the references' laws: what they hand back. Condition: lists of fewer than 2^42 identities. -/
import Derived.Test.YtohdkmgnnncpkaaProg
import Derived.Test.YtohdkmgnnncpkaaB
namespace Go.Proofs.Ytohdkmgnnncpkaa
open Go.RowKit
abbrev Id := Arr 32
theorem E24 : Elem Try.prog 24 33 32 32 := Elem.mk' (Arr.zero 32).val Try.underlying24 (by kernel_rfl) (by kernel_rfl) (by omega) (by omega)
theorem E22 : Elem Try.prog 22 38 32 32 := Elem.mk' (Arr.zero 32).val Try.underlying22 (by kernel_rfl) (by kernel_rfl) (by omega) (by omega)
theorem A33 : AggT Try.prog 33 32 := ⟨_, Try.underlying33, rfl, by kernel_rfl⟩
theorem A38 : AggT Try.prog 38 32 := ⟨_, Try.underlying38, rfl, by kernel_rfl⟩
theorem R33 : ArrT Try.prog 33 32 := ⟨_, _, Try.underlying33, Try.underlying5, by kernel_rfl, by kernel_rfl⟩
theorem R38 : ArrT Try.prog 38 32 := ⟨_, _, Try.underlying38, Try.underlying5, by kernel_rfl, by kernel_rfl⟩
/-- A slice of identities that is read. -/
abbrev Ids (w : World) (v : Value) (l : List Id) : Prop := Sl w v 32 l.length (flat l)
theorem Ids.of {w : World} {v : Value} {n : Nat} {l : List Id} {cs : List Value} (h : Sl w v 32 n cs) (hn : n = l.length) (hc : cs = flat l) : Ids w v l := by subst hn hc; exact h
def RetIds (E : TypeId) (w : World) (l : List Id) (e : Ending) (w' : World) : Prop :=
  ∃ ao cap, e = .returned (.slice ao l.length cap) ∧ w'.ownsRow w.heap.size E 32 (.slice ao l.length cap) l.length (flat l) ∧ Below w.heap.size w w'
/-- The same slice value under another name for its length. -/
theorem RetIds.mk {E : TypeId} {w w' : World} {l : List Id} {ao : Option Addr} {n cap : Nat} (h : w'.ownsRow w.heap.size E 32 (.slice ao l.length cap) l.length (flat l) ∧ Below w.heap.size w w') (hn : n = l.length) : RetIds E w l (.returned (.slice ao n cap)) w' := by
  subst hn; exact ⟨_, _, rfl, h⟩
theorem Ids.get {w : World} {a : Addr} {cap : Nat} {l : List Id} (h : Ids w (.slice (some a) l.length cap) l) (k : Nat) (hk : k < l.length) : ∀ j u, (l[k]).cells[j]? = some u → w.cell? ((a.add (k * 32)).add j) = some u := by
  intro j u hu
  have hj : j < 32 := by
    have := (List.getElem?_eq_some_iff.1 hu).1
    rwa [Arr.len] at this
  have h1 := h.cell (k * 32 + j) u (by rw [flat_get l k hk j hj]; exact hu)
  have e : (a.add (k * 32)).add j = a.add (k * 32 + j) := by
    unfold Addr.add; split <;> split <;> simp_all <;> omega
  rw [e]; exact h1
def OwnRel (w : World) (l : List Id) (v i : Value) (wr : World) : Prop :=
  ∃ k : Nat, k ≤ l.length ∧ i = .int .i64 k ∧ ∃ a' c', v = .slice a' k c' ∧ Holds w [] [] [⟨v, 33, 32, k, flat (l.take k)⟩] wr
set_option maxHeartbeats 400000 in
theorem own_any (w : World) (v : Value) (l : List Id) (hl : Ids w v l) (hn : l.length * 32 ≤ 140737488355328) :
    Calls Try.prog 13 #[v] w (RetIds 33 w l) := by
  obtain ⟨ao, cap, rfl, _⟩ := hl.shape
  have hH := Holds.init w
  go_enter Try.func13, Try.ntmps13
  go_wp2
  go_loopw [3, 4] (OwnRel w l) (fun _ i _ => l.length - (intOf i).toNat)
  case atStart => exact ⟨0, Nat.zero_le _, rfl, _, _, rfl, hH.addRow (Below.refl _ _) (by simpa [flat] using World.ownsRow_nil w w.heap.size 33 32)⟩
  case round =>
    obtain ⟨k, hk, rfl, a', c', rfl, hr⟩ := hrel
    clear hH
    by_cases hlt : k < l.length
    · obtain ⟨a, cap', e⟩ := hl.some (by omega)
      cases e
      have hi : Ids wr (.slice (some a) l.length cap) l := hr.sl hl
      have hg := hi.get k hlt
      have HR := hid hr
      have HG := hid hg
      clear hr hg hi
      go_wp2_with (first
        | ((with_reducible apply wpList_load_agg A38 (Arr.len _) HG.out); go_must (rfl; rfl))
        | ((with_reducible apply wpList_buildArr E24 [l[k]] HR.out); go_must ((rfl; rfl; decide; rfl; (intro g w1 hq; have HR1 := hid hq; clear hq HR))))
        | ((with_reducible apply wpList_append E24 HR1.out.swap HR1.out.sl0 (flat_cell1 _)); go_must ((omega; rfl; rfl; rfl; (intro ao1 cap1 w2 hq; have HR2 := hid hq.dropSnd; clear hq HR1))))
        )
      go_roundw
      case rel => exact ⟨k + 1, by omega, by go_num, _, _, rfl, by
        have := HR2.out
        rw [← flat_append, List.take_append_getElem hlt] at this
        exact this⟩
      case measure => simp [intOf]; omega
    · have HR := hid hr
      clear hr
      go_wp2
      go_ret
      obtain rfl : k = l.length := by omega
      have h0 := HR.out
      rw [List.take_length] at h0
      exact ⟨_, _, rfl, h0.own0, h0.below⟩
end Go.Proofs.Ytohdkmgnnncpkaa
