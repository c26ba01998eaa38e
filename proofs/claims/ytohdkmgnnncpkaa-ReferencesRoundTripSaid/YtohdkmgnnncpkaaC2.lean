/- Same of the references' laws: whether two lists are equal. Condition: the first list's length is an int. -/
import Derived.Test.YtohdkmgnnncpkaaC1
namespace Go.Proofs.Ytohdkmgnnncpkaa
open Go.RowKit
def SameRel (w : World) (l m : List Id) (i : Value) (wr : World) : Prop :=
  ∃ k : Nat, k ≤ l.length ∧ i = .int .i64 k ∧ l.take k = m.take k ∧ Holds w [] [] [] wr
def RetB (w : World) (b : Bool) (e : Ending) (w' : World) : Prop := e = .returned (.bool b) ∧ Below w.heap.size w w'
theorem RetB.mk {w w' : World} {b c : Bool} (h : b = c) (hb : Below w.heap.size w w') : RetB w c (.returned (.bool b)) w' := ⟨by rw [h], hb⟩
theorem beq_no {α : Type} [BEq α] [LawfulBEq α] {x y : α} (h : x ≠ y) : (x == y) = false := by rw [beq_eq_false_iff_ne]; exact h
theorem beq_yes {α : Type} [BEq α] [LawfulBEq α] {x y : α} (h : x = y) : (x == y) = true := by rw [beq_iff_eq]; exact h
theorem ne_at {α : Type} {l m : List α} {k : Nat} (hl : k < l.length) (hm : k < m.length) (h : l[k] ≠ m[k]) : l ≠ m := by
  intro e; subst e; exact h rfl
theorem take_next {α : Type} {l m : List α} {k : Nat} (hl : k < l.length) (hm : k < m.length) (h : l[k] = m[k]) (ht : l.take k = m.take k) : l.take (k + 1) = m.take (k + 1) := by
  rw [← List.take_append_getElem hl, ← List.take_append_getElem hm, ht, h]
set_option maxHeartbeats 400000 in
theorem same_any (w : World) (v1 v2 : Value) (l m : List Id) (h1 : Ids w v1 l) (h2 : Ids w v2 m) (hn : l.length ≤ 9223372036854775807) :
    Calls Try.prog 15 #[v1, v2] w (RetB w (l == m)) := by
  obtain ⟨a1, c1, rfl, _⟩ := h1.shape
  obtain ⟨a2, c2, rfl, _⟩ := h2.shape
  have HH := hid (Holds.init w)
  by_cases hlen : l.length = m.length
  · have hb : ((l.length : Int) != (m.length : Int)) = false := by simp [hlen]
    have HL := hid hlen
    clear hlen
    go_enter Try.func15, Try.ntmps15
    go_wp2
    go_loopw [5] (SameRel w l m) (fun i _ => l.length - (intOf i).toNat)
    case atStart => exact ⟨0, Nat.zero_le _, rfl, rfl, HH.out⟩
    case round =>
      obtain ⟨k, hk, rfl, htk, hr⟩ := hrel
      have HR := hid hr
      have HT := hid htk
      clear hr htk HH
      by_cases hlt : k < l.length
      · have hlt2 : k < m.length := by rw [← HL.out]; exact hlt
        obtain ⟨x1, y1, e⟩ := h1.some (by omega)
        cases e
        obtain ⟨x2, y2, e⟩ := h2.some (by omega)
        cases e
        go_wp2
        refine wp_region_holds (by kernel_rfl) (by kernel_rfl) HR.out ?_
        repeat ((first
          | ((with_reducible apply wpQ_skip); rfl; skip)
          | ((with_reducible apply wpQ_index E24 (j := k)); go_must ((rfl; rfl; rfl; exact hlt; rfl)))
          | ((with_reducible apply wpQ_index E22 (j := k)); go_must ((rfl; rfl; rfl; exact hlt2; rfl)))
          | ((with_reducible apply wpQ_load_agg A33 (Arr.len l[k])); go_must (((intro wq hwq; exact (show Ids wq _ l from hwq.sl h1).get k hlt); rfl; rfl)))
          | ((with_reducible apply wpQ_load_agg A38 (Arr.len m[k])); go_must (((intro wq hwq; exact (show Ids wq _ m from hwq.sl h2).get k hlt2); rfl; rfl)))
          | ((with_reducible apply wpQ_neq_arr R33 (p := l[k]) (q := m[k])); go_must ((rfl; rfl; rfl)))
          | ((with_reducible apply wpQ_move); rfl; rfl)
          | ((with_reducible apply wpQ_assign); rfl; rfl)
          | ((with_reducible apply wpQ_pick); rfl; rfl; rfl)
          | ((with_reducible apply wpQ_not); rfl; rfl)
          | ((with_reducible apply wpQ_cmp (b := true)); rfl; rfl; rfl; (first | rfl | assumption | (simp only [cmpB, decide_eq_true_eq, decide_eq_false_iff_not, beq_iff_eq, bne_iff_ne, ne_eq, beq_eq_false_iff_ne, bne_eq_false_iff_eq, gt_iff_lt, ge_iff_le]; omega) | (simp; omega)); rfl)
          | ((with_reducible apply wpQ_cmp (b := false)); rfl; rfl; rfl; (first | rfl | assumption | (simp only [cmpB, decide_eq_true_eq, decide_eq_false_iff_not, beq_iff_eq, bne_iff_ne, ne_eq, beq_eq_false_iff_ne, bne_eq_false_iff_eq, gt_iff_lt, ge_iff_le]; omega) | (simp; omega)); rfl)
          | ((with_reducible apply wpQ_cmp); rfl; rfl; rfl; rfl; rfl)
          | ((with_reducible apply wpQ_arith); rfl; rfl; rfl; (exact IntWalk.i64_in _ (by (try simp only [arithI]); omega)); rfl)); simp only [arithI, Act.put, Act.eval, List.setIfInBounds_toArray, List.set_cons_succ, List.set_cons_zero, Array.getD_eq_getD_getElem?, List.getElem?_toArray, List.getElem?_cons_succ, List.getElem?_cons_zero, Option.getD_some])
        refine wpQuiet_nil ?_
        intro wq hq_
        have HQ := hid hq_
        clear hq_
        go_wp2
        · have hx : (!(l[k] == m[k])) = true := by assumption
          go_ret
          exact RetB.mk (beq_no (ne_at hlt hlt2 (Arr.ne_of hx))).symm HQ.out.below
        · have hx : (!(l[k] == m[k])) = false := by assumption
          go_roundw
          case rel => exact ⟨k + 1, by omega, by go_num, take_next hlt hlt2 (Arr.eq_of hx) HT.out, HQ.out⟩
          case measure => simp [intOf]; omega
      · go_wp2
        go_ret
        obtain rfl : k = l.length := by omega
        have e := HT.out
        rw [List.take_length, HL.out, List.take_length] at e
        exact RetB.mk (beq_yes e).symm HR.out.below
  · have hb : ((l.length : Int) != (m.length : Int)) = true := by simp; omega
    have HL := hid hlen
    clear hlen
    go_enter Try.func15, Try.ntmps15
    go_wp2
    go_ret
    exact RetB.mk (beq_no (fun e => HL.out (by rw [e]))).symm (Below.refl _ _)
end Go.Proofs.Ytohdkmgnnncpkaa
