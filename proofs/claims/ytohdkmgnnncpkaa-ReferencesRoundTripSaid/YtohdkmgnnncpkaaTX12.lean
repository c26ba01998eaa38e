/- The law of Parse. No condition. -/
import Derived.Test.YtohdkmgnnncpkaaTX11
set_option linter.unusedSimpArgs false
set_option linter.unusedVariables false
namespace Go.Proofs.Ytohdkmgnnncpkaa
open Go.RowKit
attribute [local irreducible] wpQuiet wpList
theorem parseN_len (s : List UInt8) : ∀ (f i : Nat) (out : List Id), out.length ≤ 20 → (parseN s f i out).1.length ≤ 20
  | 0, _, out, h => h
  | f + 1, i, out, h => by
    rw [parseN]
    split
    · split
      · exact parseN_len s f _ _ h
      · split
        · simp
        · rename_i h20
          split
          · simp
          · split
            · exact parseN_len s f _ _ (by simp; omega)
            · simp
    · exact h
theorem RetPa.get {w w' : World} {e : Ending} {l : List Id} {i : Nat} {c : Int} (h : RetPa w (l, i, c) e w') : ∃ ao cap, e = .returned (.tuple #[.slice ao l.length cap, .int .i64 (i : Int), .int .i64 c]) ∧ Below w.heap.size w w' ∧ Ids w' (.slice ao l.length cap) l := h
set_option maxRecDepth 100000 in
set_option maxHeartbeats 2000000 in
theorem law_parse (w : World) (s : List UInt8) : Calls Try.prog 8 #[str s] w (RetB w true) := by
  have HH := hid (Holds.init w)
  by_cases h30 : 3000 < s.length
  · go_enter Try.func8, Try.ntmps8
    go_wp2_with (first
      | ((first
          | ((with_reducible apply wpL_skip); rfl; skip)
          | (go_at_call 11; (first | ((have hcall_ := hid (known_any _)); (with_reducible refine hcall_.out.mono ?_); clear hcall_) | (with_reducible refine (known_any _).mono ?_)); rintro e_ w2_ ⟨rfl, hb_⟩; (have hq_ := HH.out.grow hb_); clear HH; have HH := hid hq_; clear hq_ hb_)
          | ((with_reducible apply wpL_nilCheck); rfl; rfl)
          | ((with_reducible apply wpL_move); rfl; rfl)
          | ((with_reducible apply wpL_assign); rfl; rfl)
          | ((with_reducible apply wpL_pick); rfl; rfl; rfl)
          | ((with_reducible apply wpL_not); rfl; rfl)
          | ((with_reducible apply wpL_cmp (b := true)); rfl; rfl; rfl; (first | rfl | assumption | (simp only [cmpB, decide_eq_true_eq, decide_eq_false_iff_not, beq_iff_eq, bne_iff_ne, ne_eq, beq_eq_false_iff_ne, bne_eq_false_iff_eq, gt_iff_lt, ge_iff_le]; omega) | (simp; omega)); rfl)
          | ((with_reducible apply wpL_cmp (b := false)); rfl; rfl; rfl; (first | rfl | assumption | (simp only [cmpB, decide_eq_true_eq, decide_eq_false_iff_not, beq_iff_eq, bne_iff_ne, ne_eq, beq_eq_false_iff_ne, bne_eq_false_iff_eq, gt_iff_lt, ge_iff_le]; omega) | (simp; omega)); rfl)
          | ((with_reducible apply wpL_cmp); rfl; rfl; rfl; rfl; rfl)
          | ((with_reducible apply wpL_arith); rfl; rfl; rfl; (exact IntWalk.i64_in _ (by (try simp only [arithI]); omega)); rfl)); (try simp only [arithI, Act.put, Act.eval, List.setIfInBounds_toArray, List.set_cons_succ, List.set_cons_zero, Array.getD_eq_getD_getElem?, List.getElem?_toArray, List.getElem?_cons_succ, List.getElem?_cons_zero, Option.getD_some])))
    go_ret
    exact RetB.mk rfl HH.out.below
  · obtain ⟨⟨l, i, c⟩, hr⟩ : ∃ r, parseL s 0 [] = r := ⟨_, rfl⟩
    have HR := hid hr
    have hl20 : l.length ≤ 20 := by
      have := parseN_len s (s.length - 0) 0 [] (by simp)
      have e : parseN s (s.length - 0) 0 [] = (l, i, c) := hr
      rw [e] at this; exact this
    clear hr
    have HLL := hid (beq_self_eq_true l)
    have hii : ((i : Int) == (i : Int)) = true := beq_self_eq_true _
    have hcc : (c == c) = true := beq_self_eq_true _
    go_enter Try.func8, Try.ntmps8
    go_wp2_with (first
      | ((first
          | ((with_reducible apply wpL_skip); rfl; skip)
          | (go_at_call 11; (first | ((have hcall_ := hid (known_any _)); (with_reducible refine hcall_.out.mono ?_); clear hcall_) | (with_reducible refine (known_any _).mono ?_)); rintro e_ w2_ ⟨rfl, hb_⟩; (have hq_ := HH.out.grow hb_); clear HH; have HH := hid hq_; clear hq_ hb_)
          | (go_at_call 25; (with_reducible refine (progParse_any _ s (by omega)).mono ?_); rw [HR.out]; intro e_ w2_ hq0_; obtain ⟨ao1, cap1, rfl, hb_, hl1_⟩ := hq0_.get; clear hq0_; (have hq_ := HH.out.grow hb_); clear HH; have HH := hid hq_; have HL1 := hid hl1_; clear hq_ hb_ hl1_)
          | (go_at_call 26; (with_reducible refine (refParse_any _ s (by omega)).mono ?_); rw [HR.out]; intro e_ w2_ hq0_; obtain ⟨ao2, cap2, rfl, hb_, hl2_⟩ := hq0_.get; clear hq0_; (have hq_ := HH.out.grow hb_); (have hk_ := HL1.out.below hb_); clear HH HL1; have HH := hid hq_; have HL1 := hid hk_; have HL2 := hid hl2_; clear hq_ hb_ hl2_ hk_)
          | (go_at_call 15; (with_reducible refine (same_any _ _ _ l l HL1.out HL2.out (by omega)).mono ?_); rw [HLL.out]; rintro e_ w2_ ⟨rfl, hb_⟩; (have hq_ := HH.out.grow hb_); clear HH; have HH := hid hq_; clear hq_ hb_)
          | ((with_reducible apply wpL_nilCheck); rfl; rfl)
          | ((with_reducible apply wpL_move); rfl; rfl)
          | ((with_reducible apply wpL_assign); rfl; rfl)
          | ((with_reducible apply wpL_pick); rfl; rfl; rfl)
          | ((with_reducible apply wpL_not); rfl; rfl)
          | ((with_reducible apply wpL_cmp (b := true)); rfl; rfl; rfl; (first | rfl | assumption | (simp only [cmpB, decide_eq_true_eq, decide_eq_false_iff_not, beq_iff_eq, bne_iff_ne, ne_eq, beq_eq_false_iff_ne, bne_eq_false_iff_eq, gt_iff_lt, ge_iff_le]; omega) | (simp; omega)); rfl)
          | ((with_reducible apply wpL_cmp (b := false)); rfl; rfl; rfl; (first | rfl | assumption | (simp only [cmpB, decide_eq_true_eq, decide_eq_false_iff_not, beq_iff_eq, bne_iff_ne, ne_eq, beq_eq_false_iff_ne, bne_eq_false_iff_eq, gt_iff_lt, ge_iff_le]; omega) | (simp; omega)); rfl)
          | ((with_reducible apply wpL_cmp); rfl; rfl; rfl; rfl; rfl)
          | ((with_reducible apply wpL_arith); rfl; rfl; rfl; (exact IntWalk.i64_in _ (by (try simp only [arithI]); omega)); rfl)); (try simp only [arithI, Act.put, Act.eval, List.setIfInBounds_toArray, List.set_cons_succ, List.set_cons_zero, Array.getD_eq_getD_getElem?, List.getElem?_toArray, List.getElem?_cons_succ, List.getElem?_cons_zero, Option.getD_some])))
    go_ret
    exact RetB.mk rfl HH.out.below
theorem str_of (s : ByteArray) : Value.string s = str s.data.toList := by
  show Value.string s = .string ⟨s.data.toList.toArray⟩
  simp
end Go.Proofs.Ytohdkmgnnncpkaa
