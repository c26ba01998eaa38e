/- slices.Clone, slices.Equal at identities. Condition: lists of at most 2^42 identities. -/
import Derived.Test.YtohdkmgnnncpkaaC2
import Derived.Test.YtohdkmgnnncpkaaD
import Derived.Lib.SliceRun
namespace Go.Proofs.Ytohdkmgnnncpkaa
open Go.RowKit
theorem fits {n : Nat} (hn : n * 32 ≤ 140737488355328) : n ≤ 9223372036854775807 := by omega
theorem retIds_of {w w' : World} {E : TypeId} {rows : List Row} {ao : Option Addr} {n cap : Nat} {l : List Id} {xs : List Value} (h : Holds w [] [] (⟨.slice ao n cap, E, 32, n, xs⟩ :: rows) w') (hn : n = l.length) (hx : xs = flat l) : RetIds E w l (.returned (.slice ao n cap)) w' := by
  subst hn hx
  exact ⟨_, _, rfl, h.own0, (h : Holds w [] [] _ w').below⟩
theorem retIds_nil (w : World) (E : TypeId) : RetIds E w [] (.returned (.slice none 0 0)) w := ⟨_, _, rfl, World.ownsRow_nil _ _ _ _, Below.refl _ _⟩
set_option maxHeartbeats 400000 in
theorem clone_any (w : World) (v : Value) (l : List Id) (hl : Ids w v l) (hn : l.length * 32 ≤ 140737488355328) :
    Calls Try.prog 33 #[v] w (RetIds 33 w l) := by
  obtain ⟨ao, cap, rfl, _⟩ := hl.shape
  have HH := hid (Holds.init w)
  have qT : ∀ (w : World) (a : Option Addr) (n c n' c' : Nat), (binOp .eql 24 (.slice a n c) (.slice none n' c')).run Try.prog w = .ok (.bool a.isNone) w := fun w a n c n' c' => Lib.run_eql_slice_nil w _ _ a n c n' c' Try.underlying24
  cases ao with
  | none =>
    have h0 : l = [] := by
      cases l with
      | nil => rfl
      | cons x l => obtain ⟨a, c, e⟩ := hl.some (by simp); cases e
    subst h0
    go_enter Try.func33, Try.ntmps33
    go_wp2
    go_ret
    exact retIds_nil w 33
  | some a =>
    have HN := hid hn
    have HL := hid hl
    clear hn hl
    go_enter Try.func33, Try.ntmps33
    go_wp2_with (first
      | ((with_reducible apply wpList_buildArr E24 [] HH.out); go_must ((rfl; rfl; decide; rfl; (intro g w1 hq; have H1 := hid hq; clear hq HH))))
      | ((with_reducible apply wpList_append E24 H1.out (H1.out.sl HL.out) (flat_cell1 _)); go_must (((have := HN.out; omega); rfl; rfl; rfl; (intro ao1 cap1 w2 hq; have H2 := hid hq; clear hq H1)))))
    go_ret
    have h2 := H2.out
    simp only [Nat.zero_add, flat_nil, List.nil_append] at h2
    exact retIds_of h2 rfl rfl
set_option maxHeartbeats 400000 in
theorem equal_any (w : World) (v1 v2 : Value) (l m : List Id) (h1 : Ids w v1 l) (h2 : Ids w v2 m) (hn : l.length ≤ 9223372036854775807) :
    Calls Try.prog 34 #[v1, v2] w (RetB w (l == m)) := by
  obtain ⟨a1, c1, rfl, _⟩ := h1.shape
  obtain ⟨a2, c2, rfl, _⟩ := h2.shape
  have HH := hid (Holds.init w)
  by_cases hlen : l.length = m.length
  · have hb : ((l.length : Int) != (m.length : Int)) = false := by simp [hlen]
    have HL := hid hlen
    clear hlen
    go_enter Try.func34, Try.ntmps34
    go_wp2
    go_loopw [13] (SameRel w l m) (fun i _ => l.length - (intOf i).toNat)
    case atStart => exact ⟨0, Nat.zero_le _, rfl, rfl, HH.out⟩
    case round =>
      obtain ⟨k, hk, rfl, htk, hr⟩ := hrel
      have HR := hid hr
      have HT := hid htk
      clear hr htk HH
      by_cases hlt : k < l.length
      · have hlt2 : k < m.length := by rw [← HL.out]; exact hlt
        obtain ⟨x1, y1, e⟩ := h1.some (by omega)
        cases e
        obtain ⟨x2, y2, e⟩ := h2.some (by omega)
        cases e
        go_wp2
        refine wp_region_holds (by kernel_rfl) (by kernel_rfl) HR.out ?_
        repeat ((first
          | ((with_reducible apply wpQ_skip); rfl; skip)
          | ((with_reducible apply wpQ_index E24 (j := k) (ad := x1)); rfl; rfl; rfl; exact hlt; rfl)
          | ((with_reducible apply wpQ_index E24 (j := k) (ad := x2)); rfl; rfl; rfl; exact hlt2; rfl)
          | ((with_reducible apply wpQ_load_agg A33 (Arr.len l[k])); ((intro wq hwq; exact (show Ids wq _ l from hwq.sl h1).get k hlt); rfl; rfl))
          | ((with_reducible apply wpQ_load_agg A33 (Arr.len m[k])); go_must (((intro wq hwq; exact (show Ids wq _ m from hwq.sl h2).get k hlt2); rfl; rfl)))
          | ((with_reducible apply wpQ_neq_arr R33 (p := l[k]) (q := m[k])); go_must ((rfl; rfl; rfl)))
          | ((with_reducible apply wpQ_move); rfl; rfl)
          | ((with_reducible apply wpQ_assign); rfl; rfl)
          | ((with_reducible apply wpQ_pick); rfl; rfl; rfl)
          | ((with_reducible apply wpQ_not); rfl; rfl)
          | ((with_reducible apply wpQ_cmp (b := true)); rfl; rfl; rfl; (first | rfl | assumption | (simp only [cmpB, decide_eq_true_eq, decide_eq_false_iff_not, beq_iff_eq, bne_iff_ne, ne_eq, beq_eq_false_iff_ne, bne_eq_false_iff_eq, gt_iff_lt, ge_iff_le]; omega) | (simp; omega)); rfl)
          | ((with_reducible apply wpQ_cmp (b := false)); rfl; rfl; rfl; (first | rfl | assumption | (simp only [cmpB, decide_eq_true_eq, decide_eq_false_iff_not, beq_iff_eq, bne_iff_ne, ne_eq, beq_eq_false_iff_ne, bne_eq_false_iff_eq, gt_iff_lt, ge_iff_le]; omega) | (simp; omega)); rfl)
          | ((with_reducible apply wpQ_cmp); rfl; rfl; rfl; rfl; rfl)
          | ((with_reducible apply wpQ_arith); rfl; rfl; rfl; (exact IntWalk.i64_in _ (by (try simp only [arithI]); omega)); rfl)); simp only [arithI, Act.put, Act.eval, List.setIfInBounds_toArray, List.set_cons_succ, List.set_cons_zero, Array.getD_eq_getD_getElem?, List.getElem?_toArray, List.getElem?_cons_succ, List.getElem?_cons_zero, Option.getD_some])
        refine wpQuiet_nil ?_
        intro wq hq_
        have HQ := hid hq_
        clear hq_
        go_wp2
        · have hx : (!(l[k] == m[k])) = true := by assumption
          go_ret
          exact RetB.mk (beq_no (ne_at hlt hlt2 (Arr.ne_of hx))).symm HQ.out.below
        · have hx : (!(l[k] == m[k])) = false := by assumption
          go_roundw
          case rel => exact ⟨k + 1, by omega, by go_num, take_next hlt hlt2 (Arr.eq_of hx) HT.out, HQ.out⟩
          case measure => simp [intOf]; omega
      · go_wp2
        go_ret
        obtain rfl : k = l.length := by omega
        have e := HT.out
        rw [List.take_length, HL.out, List.take_length] at e
        exact RetB.mk (beq_yes e).symm HR.out.below
  · have hb : ((l.length : Int) != (m.length : Int)) = true := by simp; omega
    have HL := hid hlen
    clear hlen
    go_enter Try.func34, Try.ntmps34
    go_wp2
    go_ret
    exact RetB.mk (beq_no (fun e => HL.out (by rw [e]))).symm (Below.refl _ _)
end Go.Proofs.Ytohdkmgnnncpkaa
