/- The law ReferencesTrim: it returns true. Condition: the list takes at most 2^47 bytes. -/
import Derived.Test.YtohdkmgnnncpkaaC6
namespace Go.Proofs.Ytohdkmgnnncpkaa
open Go.RowKit
theorem cutL_len (l : List Id) (n : Nat) (h : 1 ≤ n) : (cutL l n).length = min l.length n := by
  unfold cutL
  split
  · omega
  · split
    · rw [List.length_drop]; omega
    · rw [List.length_append, List.length_take, List.length_drop]; omega
theorem cutL_short {l : List Id} {n : Nat} (h : l.length ≤ n) : cutL l n = l := by unfold cutL; rw [if_pos h]
theorem cutL_long {l : List Id} {n : Nat} (h : n < l.length) : cutL l n = if n = 1 then l.drop (l.length - 1) else l.take 1 ++ l.drop (l.length - n + 1) := by unfold cutL; rw [if_neg (by omega)]
theorem cutL_cutL (l : List Id) (m n : Nat) (h : 1 ≤ n) (hm : n ≤ m) : cutL (cutL l m) n = cutL l n := by
  by_cases h1 : l.length ≤ m
  · rw [cutL_short h1]
  have hlen := cutL_len l m (by omega)
  by_cases h2 : n = m
  · subst h2
    rw [cutL_short (by omega)]
  have hl : cutL l m = l.take 1 ++ l.drop (l.length - m + 1) := by rw [cutL_long (by omega), if_neg (by omega)]
  generalize cutL l m = k at hl hlen
  rw [cutL_long (by omega), cutL_long (show n < l.length by omega)]
  have ht : (l.take 1).length = 1 := by rw [List.length_take]; omega
  split
  · rw [hlen, hl, List.drop_append, ht, List.drop_eq_nil_of_le (by omega), List.nil_append, List.drop_drop]
    congr 1; omega
  · rw [hlen, hl, List.take_append_of_le_length (by omega), List.take_take]
    congr 1
    rw [List.drop_append, ht, List.drop_eq_nil_of_le (by omega), List.nil_append, List.drop_drop]
    congr 1; omega
theorem trimE_zero {l : List Id} {m : Int} (h : trimE l m = 0) : 1 ≤ m ∧ m ≤ 20 ∧ l.length ≤ 1000 := by
  unfold trimE at h
  split at h
  · omega
  · split at h
    · omega
    · omega
theorem trimE_of {l : List Id} {m : Int} (h1 : 1 ≤ m) (h2 : m ≤ 20) (h3 : l.length ≤ 1000) : trimE l m = 0 := by
  unfold trimE; rw [if_neg (by omega), if_neg (by omega)]
theorem trimV_len (l : List Id) (m : Int) : (trimV l m).length ≤ l.length := by
  unfold trimV
  split
  · rename_i h
    have := trimE_zero h
    rw [cutL_len _ _ (by omega)]; omega
  · simp
theorem trim_trim {l : List Id} {m n : Int} (h : trimE l m = 0) (h1 : 1 ≤ n) (h2 : n ≤ m) (hl : l.length ≤ 60) : trimE (trimV l m) n = 0 ∧ trimE l n = 0 ∧ trimV (trimV l m) n = trimV l n := by
  have hz := trimE_zero h
  have hlen := trimV_len l m
  have e1 : trimE (trimV l m) n = 0 := trimE_of h1 (by omega) (by omega)
  have e2 : trimE l n = 0 := trimE_of h1 (by omega) (by omega)
  refine ⟨e1, e2, ?_⟩
  unfold trimV at e1 ⊢
  rw [if_pos h] at e1 ⊢
  rw [if_pos e1, if_pos e2, cutL_cutL l m.toNat n.toNat (by omega) (by omega)]
/-- A loop that only reads: the count, and what the call owned when it began. -/
def HoldsRel {w0 w : World} {S : List Nat} {bs : List (Nat × Obj)} {rows : List Row} (_ : Holds w0 S bs rows w) (n : Nat) (i : Value) (wr : World) : Prop := ∃ k : Nat, k ≤ n ∧ i = .int .i64 k ∧ Holds w0 S bs rows wr
set_option maxRecDepth 100000 in
set_option maxHeartbeats 1000000 in
theorem law_trim (w : World) (v : Value) (l : List Id) (hl : Ids w v l) (hn : l.length * 32 ≤ 140737488355328) (m n : Int) :
    Calls Try.prog 3 #[v, .int .i64 m, .int .i64 n] w (RetB w true) := by
  obtain ⟨ao, cap, rfl, hc⟩ := hl.shape
  have HL := hid hl
  have HN := hid hn
  have HH := hid (Holds.init w)
  clear hl
  by_cases hlen : 60 < l.length
  · go_enter Try.func3, Try.ntmps3
    go_wp2_with (go_at_call 11; refine (known_any _).mono ?_; rintro e w1 ⟨rfl, hb⟩; (have hq_ := HH.out.grow hb); clear HH; have HH := hid hq_; clear hq_ hb)
    go_ret
    exact RetB.mk rfl HH.out.below
  have hsm : l.length ≤ 60 := by omega
  have hn2 : (trimV l m).length ≤ 60 := by have := trimV_len l m; omega
  have eB : (trimV l m == trimV l m) = true := beq_yes rfl
  have EB := hid eB
  clear hn eB
  by_cases hz : trimE l m = 0
  · by_cases hnm : 1 ≤ n ∧ n ≤ m
    · obtain ⟨hn1, hnm1⟩ := hnm
      obtain ⟨q1, q2, q3⟩ := trim_trim hz hn1 hnm1 hsm
      have Q1 := hid q1
      have Q2 := hid q2
      have Q3 := hid q3
      clear q1 q2 q3
      go_enter Try.func3, Try.ntmps3
      go_wp2_with (first
      | (go_at_call 11; refine (known_any _).mono ?_; rintro e w1 ⟨rfl, hb⟩; (have hq_ := HH.out.grow hb); clear HH; have HH := hid hq_; clear hq_ hb)
      | (go_at_call 13; (with_reducible refine (own_any _ _ l (HH.out.sl HL.out) HN.out).mono ?_); rintro e w2 ⟨ao2, cap2, rfl, hr⟩; (have hq_ := HH.out.addRow hr.2 hr.1); clear HH; have HH := hid hq_; clear hq_ hr)
      | (go_at_call 12; (with_reducible refine (Trim_any _ _ l HH.out.sl0 HN.out m).mono ?_); rintro e w2 ⟨ao2, cap2, rfl, hr⟩; (have hq_ := HH.out.addRow hr.2 hr.1); clear HH; have HH := hid hq_; clear hq_ hr)
      | (go_at_call 14; (with_reducible refine (refTrim_any _ _ l (HH.out.sl HL.out) HN.out m).mono ?_); rintro e w2 ⟨ao2, cap2, rfl, hr⟩; (have hq_ := HH.out.addRow hr.2 hr.1); clear HH; have HH := hid hq_; clear hq_ hr)
      | (go_at_call 15; (with_reducible refine (same_any _ _ _ (trimV l m) (trimV l m) HH.out.sl1 HH.out.sl0 (by omega)).mono ?_); rw [EB.out]; rintro e w2 ⟨rfl, hb⟩; (have hq_ := HH.out.grow hb); clear HH; have HH := hid hq_; clear hq_ hb)
      | (go_at_call 12; (with_reducible refine (Trim_any _ _ (trimV l m) HH.out.sl1 (by omega) n).mono ?_); rw [Q1.out, Q3.out]; rintro e w2 ⟨ao8, cap8, rfl, hr⟩; (have hq_ := HH.out.addRow hr.2 hr.1); clear HH; have HH := hid hq_; clear hq_ hr)
      | (go_at_call 12; (with_reducible refine (Trim_any _ _ l HH.out.sl0 HN.out n).mono ?_); rw [Q2.out]; rintro e w9 ⟨ao9, cap9, rfl, hr⟩; (have hq_ := HH.out.addRow hr.2 hr.1); clear HH; have HH := hid hq_; clear hq_ hr))
      have hL : (trimV l n).length ≤ 60 := by have := trimV_len l n; omega
      go_loopw [15] (HoldsRel HH.out (trimV l n).length) (fun i _ => (trimV l n).length - (intOf i).toNat)
      case atStart => exact ⟨0, Nat.zero_le _, rfl, HH.out⟩
      case round =>
        obtain ⟨k, hk, rfl, hr⟩ := hrel
        have HR := hid hr
        clear hr
        by_cases hlt : k < (trimV l n).length
        · obtain ⟨x1, y1, e⟩ := HR.out.sl2.some (by omega)
          cases e
          obtain ⟨x2, y2, e⟩ := HR.out.sl0.some (by omega)
          cases e
          go_wp2
          refine wp_region_holds (by kernel_rfl) (by kernel_rfl) HR.out ?_
          repeat ((first
            | ((with_reducible apply wpQ_skip); rfl; skip)
            | ((with_reducible apply wpQ_index E24 (j := k)); go_must ((rfl; rfl; rfl; exact hlt; rfl)))
            | ((with_reducible apply wpQ_load_agg A33 (Arr.len (trimV l n)[k]) (x := .tmp 91)); go_must (((intro wq hwq; exact (show Ids wq _ (trimV l n) from hwq.sl2).get k hlt); rfl; rfl)))
            | ((with_reducible apply wpQ_load_agg A33 (Arr.len (trimV l n)[k]) (x := .tmp 95)); go_must (((intro wq hwq; exact (show Ids wq _ (trimV l n) from hwq.sl0).get k hlt); rfl; rfl)))
            | ((with_reducible apply wpQ_neq_arr R33 (p := (trimV l n)[k]) (q := (trimV l n)[k])); go_must ((rfl; rfl; rfl)))
            | ((with_reducible apply wpQ_move); rfl; rfl)
            | ((with_reducible apply wpQ_assign); rfl; rfl)
            | ((with_reducible apply wpQ_pick); rfl; rfl; rfl)
            | ((with_reducible apply wpQ_not); rfl; rfl)
            | ((with_reducible apply wpQ_cmp (b := true)); rfl; rfl; rfl; (first | rfl | assumption | (simp only [cmpB, decide_eq_true_eq, decide_eq_false_iff_not, beq_iff_eq, bne_iff_ne, ne_eq, beq_eq_false_iff_ne, bne_eq_false_iff_eq, gt_iff_lt, ge_iff_le]; omega) | (simp; omega)); rfl)
            | ((with_reducible apply wpQ_cmp (b := false)); rfl; rfl; rfl; (first | rfl | assumption | (simp only [cmpB, decide_eq_true_eq, decide_eq_false_iff_not, beq_iff_eq, bne_iff_ne, ne_eq, beq_eq_false_iff_ne, bne_eq_false_iff_eq, gt_iff_lt, ge_iff_le]; omega) | (simp; omega)); rfl)
            | ((with_reducible apply wpQ_cmp); rfl; rfl; rfl; rfl; rfl)
            | ((with_reducible apply wpQ_arith); rfl; rfl; rfl; (exact IntWalk.i64_in _ (by omega)); rfl)); simp only [Act.put, Act.eval, List.setIfInBounds_toArray, List.set_cons_succ, List.set_cons_zero, Array.getD_eq_getD_getElem?, List.getElem?_toArray, List.getElem?_cons_succ, List.getElem?_cons_zero, Option.getD_some])
          refine wpQuiet_nil ?_
          intro wq hq_
          have HQ := hid hq_
          clear hq_
          go_wp2
          · have hx : (!((trimV l n)[k] == (trimV l n)[k])) = true := by assumption
            exact absurd rfl (Arr.ne_of hx)
          · go_roundw
            case rel => exact ⟨k + 1, by omega, by go_num, HQ.out⟩
            case measure => simp [intOf]; omega
        · go_wp2
          go_ret
          exact RetB.mk rfl HR.out.below
    · by_cases hn1 : n < 1
      · go_enter Try.func3, Try.ntmps3
        go_wp2_with (first
      | (go_at_call 11; refine (known_any _).mono ?_; rintro e w1 ⟨rfl, hb⟩; (have hq_ := HH.out.grow hb); clear HH; have HH := hid hq_; clear hq_ hb)
        | (go_at_call 13; (with_reducible refine (own_any _ _ l (HH.out.sl HL.out) HN.out).mono ?_); rintro e w2 ⟨ao2, cap2, rfl, hr⟩; (have hq_ := HH.out.addRow hr.2 hr.1); clear HH; have HH := hid hq_; clear hq_ hr)
        | (go_at_call 12; (with_reducible refine (Trim_any _ _ l HH.out.sl0 HN.out m).mono ?_); rintro e w2 ⟨ao2, cap2, rfl, hr⟩; (have hq_ := HH.out.addRow hr.2 hr.1); clear HH; have HH := hid hq_; clear hq_ hr)
        | (go_at_call 14; (with_reducible refine (refTrim_any _ _ l (HH.out.sl HL.out) HN.out m).mono ?_); rintro e w2 ⟨ao2, cap2, rfl, hr⟩; (have hq_ := HH.out.addRow hr.2 hr.1); clear HH; have HH := hid hq_; clear hq_ hr)
        | (go_at_call 15; (with_reducible refine (same_any _ _ _ (trimV l m) (trimV l m) HH.out.sl1 HH.out.sl0 (by omega)).mono ?_); rw [EB.out]; rintro e w2 ⟨rfl, hb⟩; (have hq_ := HH.out.grow hb); clear HH; have HH := hid hq_; clear hq_ hb))
        go_ret
        exact RetB.mk rfl HH.out.below
      · have hnm1 : m < n := by omega
        go_enter Try.func3, Try.ntmps3
        go_wp2_with (first
      | (go_at_call 11; refine (known_any _).mono ?_; rintro e w1 ⟨rfl, hb⟩; (have hq_ := HH.out.grow hb); clear HH; have HH := hid hq_; clear hq_ hb)
        | (go_at_call 13; (with_reducible refine (own_any _ _ l (HH.out.sl HL.out) HN.out).mono ?_); rintro e w2 ⟨ao2, cap2, rfl, hr⟩; (have hq_ := HH.out.addRow hr.2 hr.1); clear HH; have HH := hid hq_; clear hq_ hr)
        | (go_at_call 12; (with_reducible refine (Trim_any _ _ l HH.out.sl0 HN.out m).mono ?_); rintro e w2 ⟨ao2, cap2, rfl, hr⟩; (have hq_ := HH.out.addRow hr.2 hr.1); clear HH; have HH := hid hq_; clear hq_ hr)
        | (go_at_call 14; (with_reducible refine (refTrim_any _ _ l (HH.out.sl HL.out) HN.out m).mono ?_); rintro e w2 ⟨ao2, cap2, rfl, hr⟩; (have hq_ := HH.out.addRow hr.2 hr.1); clear HH; have HH := hid hq_; clear hq_ hr)
        | (go_at_call 15; (with_reducible refine (same_any _ _ _ (trimV l m) (trimV l m) HH.out.sl1 HH.out.sl0 (by omega)).mono ?_); rw [EB.out]; rintro e w2 ⟨rfl, hb⟩; (have hq_ := HH.out.grow hb); clear HH; have HH := hid hq_; clear hq_ hb))
        go_ret
        exact RetB.mk rfl HH.out.below
  · have hzz : (trimE l m != 0) = true := by simpa using hz
    clear hz
    go_enter Try.func3, Try.ntmps3
    go_wp2_with (first
      | (go_at_call 11; refine (known_any _).mono ?_; rintro e w1 ⟨rfl, hb⟩; (have hq_ := HH.out.grow hb); clear HH; have HH := hid hq_; clear hq_ hb)
      | (go_at_call 13; (with_reducible refine (own_any _ _ l (HH.out.sl HL.out) HN.out).mono ?_); rintro e w2 ⟨ao2, cap2, rfl, hr⟩; (have hq_ := HH.out.addRow hr.2 hr.1); clear HH; have HH := hid hq_; clear hq_ hr)
      | (go_at_call 12; (with_reducible refine (Trim_any _ _ l HH.out.sl0 HN.out m).mono ?_); rintro e w2 ⟨ao2, cap2, rfl, hr⟩; (have hq_ := HH.out.addRow hr.2 hr.1); clear HH; have HH := hid hq_; clear hq_ hr)
      | (go_at_call 14; (with_reducible refine (refTrim_any _ _ l (HH.out.sl HL.out) HN.out m).mono ?_); rintro e w2 ⟨ao2, cap2, rfl, hr⟩; (have hq_ := HH.out.addRow hr.2 hr.1); clear HH; have HH := hid hq_; clear hq_ hr)
      | (go_at_call 15; (with_reducible refine (same_any _ _ _ (trimV l m) (trimV l m) HH.out.sl1 HH.out.sl0 (by omega)).mono ?_); rw [EB.out]; rintro e w2 ⟨rfl, hb⟩; (have hq_ := HH.out.grow hb); clear HH; have HH := hid hq_; clear hq_ hb))
    go_ret
    exact RetB.mk rfl HH.out.below
end Go.Proofs.Ytohdkmgnnncpkaa
