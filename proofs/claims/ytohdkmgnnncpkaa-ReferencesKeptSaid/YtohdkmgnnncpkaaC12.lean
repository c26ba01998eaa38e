/- The law ReferencesKept: it returns true. Condition: the list takes at most 2^47 bytes. -/
import Derived.Test.YtohdkmgnnncpkaaC11
import Derived.Test.YtohdkmgnnncpkaaC7
namespace Go.Proofs.Ytohdkmgnnncpkaa
open Go.RowKit
theorem checkFrom_zero : ∀ (l seen : List Id), checkFrom seen l = 0 ↔ (∀ x ∈ l, x ≠ Id0 ∧ x ∉ seen) ∧ l.Nodup
  | [], seen => by simp [checkFrom]
  | x :: r, seen => by
    have ih := checkFrom_zero r (seen ++ [x])
    rw [checkFrom]
    cases hz : (x == Id0) with
    | true =>
      rw [addE_one hz]
      simp only [Int.one_ne_zero, if_false, false_iff]
      intro h
      exact (h.1 x (by simp)).1 (Arr.eq_of' hz)
    | false =>
      cases hc : seen.contains x with
      | true =>
        rw [addE_seven hz hc]
        simp only [show ¬ (7 : Int) = 0 by decide, if_false, false_iff]
        intro h
        exact (h.1 x (by simp)).2 (by simpa using hc)
      | false =>
        rw [addE_zero hz hc, if_pos rfl, ih]
        have hc' : x ∉ seen := by simpa using hc
        simp only [List.mem_append, List.mem_singleton, not_or, List.mem_cons, List.nodup_cons]
        constructor
        · rintro ⟨h1, h2⟩
          refine ⟨fun y hy => ?_, fun hx => (h1 x hx).2.2.1 rfl, h2⟩
          rcases hy with rfl | hy
          · exact ⟨Arr.ne_of' hz, hc'⟩
          · exact ⟨(h1 y hy).1, (h1 y hy).2.1⟩
        · rintro ⟨h1, h2, h3⟩
          exact ⟨fun y hy => ⟨(h1 y (.inr hy)).1, (h1 y (.inr hy)).2, fun e => h2 (e ▸ hy), by simp⟩, h3⟩
theorem checkE_zero {l : List Id} : checkE l = 0 ↔ l.length ≤ 20 ∧ Id0 ∉ l ∧ l.Nodup := by
  unfold checkE
  split
  · constructor
    · intro h; exact absurd h (by decide)
    · intro h; omega
  · rw [checkFrom_zero]
    constructor
    · rintro ⟨h1, h2⟩
      exact ⟨by omega, fun h => (h1 _ h).1 rfl, h2⟩
    · rintro ⟨_, h1, h2⟩
      exact ⟨fun x hx => ⟨fun e => h1 (e ▸ hx), by simp⟩, h2⟩
theorem checkE_sub {l m : List Id} (h : checkE l = 0) (hs : List.Sublist m l) : checkE m = 0 := by
  rw [checkE_zero] at h ⊢
  exact ⟨Nat.le_trans hs.length_le h.1, fun hm => h.2.1 (hs.subset hm), h.2.2.sublist hs⟩
theorem cutL_sub (l : List Id) (n : Nat) (hn : 1 ≤ n) : List.Sublist (cutL l n) l := by
  unfold cutL
  split
  · exact List.Sublist.refl _
  · split
    · exact List.drop_sublist _ _
    · have : l = l.take 1 ++ l.drop 1 := (List.take_append_drop 1 l).symm
      conv => rhs; rw [this]
      refine List.Sublist.append (List.Sublist.refl _) ?_
      rename_i h1 h2
      rw [show l.length - n + 1 = (l.length - n) + 1 from rfl, Nat.add_comm, ← List.drop_drop]
      exact List.drop_sublist _ _
theorem trimV_ok {l : List Id} {m : Int} (h : trimE l m = 0) : trimV l m = cutL l m.toNat := by unfold trimV; rw [if_pos h]
theorem kept_trimmed {l : List Id} {m : Int} (h : trimE l m = 0) (h0 : 0 < l.length) : isTrimB (trimV l m) l = true := by
  have hz := trimE_zero h
  rw [trimV_ok h]
  unfold isTrimB
  by_cases hle : l.length ≤ m.toNat
  · rw [cutL_short hle]; simp
  · have hlen : (cutL l m.toNat).length = m.toNat := by rw [cutL_len _ _ (by omega)]; omega
    rw [hlen, decide_eq_true (by omega)]
    simp
theorem kept_check {l : List Id} {m : Int} (h : trimE l m = 0) (hc : checkE l = 0) : checkE (trimV l m) = 0 := by
  have hz := trimE_zero h
  rw [trimV_ok h]
  exact checkE_sub hc (cutL_sub _ _ (by omega))
theorem kept_merge {l : List Id} {m : Int} (h : trimE l m = 0) (hc : checkE l = 0) (h0 : 0 < l.length) : mergeE (trimV l m) l = 0 ∧ mergeV (trimV l m) l = l := by
  have e : mergeE (trimV l m) l = 0 := by
    unfold mergeE mergeOk; rw [kept_check h hc, hc, kept_trimmed h h0]; rfl
  refine ⟨e, ?_⟩
  unfold mergeV
  rw [if_pos e]
  split
  · rfl
  · have hz := trimE_zero h
    rename_i hlt
    rw [trimV_ok h] at hlt ⊢
    rw [cutL_len _ _ (by omega)] at hlt
    exact cutL_short (by omega)
theorem kept_range {l : List Id} {m : Int} (h : trimE l m ≠ 0) (hc : checkE l = 0) : trimE l m = 2 := by
  have := (checkE_zero.1 hc).1
  unfold trimE at h ⊢
  split
  · rfl
  · rename_i h1
    rw [if_neg h1, if_neg (by omega)] at h
    exact absurd rfl h
set_option maxRecDepth 100000 in
set_option maxHeartbeats 1000000 in
theorem law_kept (w : World) (v : Value) (l : List Id) (hl : Ids w v l) (hn : l.length * 32 ≤ 140737488355328) (m : Int) :
    Calls Try.prog 5 #[v, .int .i64 m] w (RetB w true) := by
  obtain ⟨ao, cap, rfl, hc⟩ := hl.shape
  have HL := hid hl
  have HN := hid hn
  have HH := hid (Holds.init w)
  have hn63 : l.length ≤ 9223372036854775807 := by omega
  clear hl
  by_cases hk : checkE l = 0
  · have KC := hid hk
    have hlen := (checkE_zero.1 hk).1
    by_cases hz : trimE l m = 0
    · have KZ := hid hz
      by_cases h0 : l.length = 0
      · have hl0 : l = [] := List.eq_nil_of_length_eq_zero h0
        have hv : trimV l m = [] := by rw [trimV_ok hz, hl0]; rfl
        have KV := hid hv
        have hb0 : ((l.length : Int) == 0) = true := by simp [h0]
        clear hk hz hn hl0 hv h0
        go_enter Try.func5, Try.ntmps5
        go_wp2_with (first
          | (go_at_call 11; refine (known_any _).mono ?_; rintro e w1 ⟨rfl, hb⟩; (have hq_ := HH.out.grow hb); clear HH; have HH := hid hq_; clear hq_ hb)
          | (go_at_call 13; (with_reducible refine (own_any _ _ l (HH.out.sl HL.out) HN.out).mono ?_); rintro e w2 ⟨ao2, cap2, rfl, hr⟩; (have hq_ := HH.out.addRow hr.2 hr.1); clear HH; have HH := hid hq_; clear hq_ hr)
          | (go_at_call 20; (with_reducible refine (check_any _ _ l HH.out.sl0 hn63).mono ?_); rw [KC.out]; rintro e w2 ⟨rfl, hb⟩; (have hq_ := HH.out.grow hb); clear HH; have HH := hid hq_; clear hq_ hb)
          | (go_at_call 12; (with_reducible refine (Trim_any _ _ l HH.out.sl0 HN.out m).mono ?_); rw [KZ.out, KV.out]; rintro e w2 ⟨ao2, cap2, rfl, hr⟩; (have hq_ := HH.out.addRow hr.2 hr.1); clear HH; have HH := hid hq_; clear hq_ hr))
        go_ret
        exact RetB.mk rfl HH.out.below
      · have h1 : 0 < l.length := by omega
        obtain ⟨m1, m2⟩ := kept_merge hz hk h1
        have M1 := hid m1
        have M2 := hid m2
        have MT := hid (kept_trimmed hz h1)
        have hlt : (trimV l m).length ≤ l.length := trimV_len l m
        have S1 := hid (show (l == l) = true from beq_yes rfl)
        clear hk hz hn m1 m2
        go_enter Try.func5, Try.ntmps5
        go_wp2_with (first
          | (go_at_call 11; refine (known_any _).mono ?_; rintro e w1 ⟨rfl, hb⟩; (have hq_ := HH.out.grow hb); clear HH; have HH := hid hq_; clear hq_ hb)
          | (go_at_call 13; (with_reducible refine (own_any _ _ l (HH.out.sl HL.out) HN.out).mono ?_); rintro e w2 ⟨ao2, cap2, rfl, hr⟩; (have hq_ := HH.out.addRow hr.2 hr.1); clear HH; have HH := hid hq_; clear hq_ hr)
          | (go_at_call 20; (with_reducible refine (check_any _ _ l HH.out.sl0 hn63).mono ?_); rw [KC.out]; rintro e w2 ⟨rfl, hb⟩; (have hq_ := HH.out.grow hb); clear HH; have HH := hid hq_; clear hq_ hb)
          | (go_at_call 12; (with_reducible refine (Trim_any _ _ l HH.out.sl0 HN.out m).mono ?_); rw [KZ.out]; rintro e w2 ⟨ao2, cap2, rfl, hr⟩; (have hq_ := HH.out.addRow hr.2 hr.1); clear HH; have HH := hid hq_; clear hq_ hr)
          | (go_at_call 21; (with_reducible refine (merge_any _ _ _ (trimV l m) l HH.out.sl1 HH.out.sl0 (by omega) HN.out).mono ?_); rw [M1.out, M2.out]; rintro e w2 ⟨ao2, cap2, rfl, hr⟩; (have hq_ := HH.out.addRow hr.2 hr.1); clear HH; have HH := hid hq_; clear hq_ hr)
          | (go_at_call 22; (with_reducible refine (isTrimmed_any _ _ _ (trimV l m) l HH.out.sl3 HH.out.sl0 (by omega) HN.out).mono ?_); rw [MT.out]; rintro e w2 ⟨rfl, hb⟩; (have hq_ := HH.out.grow hb); clear HH; have HH := hid hq_; clear hq_ hb)
          | (go_at_call 15; (with_reducible refine (same_any _ _ _ l l HH.out.sl1 (HH.out.sl HL.out) (by omega)).mono ?_); rw [S1.out]; rintro e w2 ⟨rfl, hb⟩; (have hq_ := HH.out.grow hb); clear HH; have HH := hid hq_; clear hq_ hb))
        go_ret
        exact RetB.mk rfl HH.out.below
    · have hr2 := kept_range hz hk
      have KZ := hid hr2
      have hv : trimV l m = [] := by unfold trimV; rw [if_neg hz]
      have KV := hid hv
      clear hk hz hn hr2 hv
      go_enter Try.func5, Try.ntmps5
      go_wp2_with (first
        | (go_at_call 11; refine (known_any _).mono ?_; rintro e w1 ⟨rfl, hb⟩; (have hq_ := HH.out.grow hb); clear HH; have HH := hid hq_; clear hq_ hb)
        | (go_at_call 13; (with_reducible refine (own_any _ _ l (HH.out.sl HL.out) HN.out).mono ?_); rintro e w2 ⟨ao2, cap2, rfl, hr⟩; (have hq_ := HH.out.addRow hr.2 hr.1); clear HH; have HH := hid hq_; clear hq_ hr)
        | (go_at_call 20; (with_reducible refine (check_any _ _ l HH.out.sl0 hn63).mono ?_); rw [KC.out]; rintro e w2 ⟨rfl, hb⟩; (have hq_ := HH.out.grow hb); clear HH; have HH := hid hq_; clear hq_ hb)
        | (go_at_call 12; (with_reducible refine (Trim_any _ _ l HH.out.sl0 HN.out m).mono ?_); rw [KZ.out, KV.out]; rintro e w2 ⟨ao2, cap2, rfl, hr⟩; (have hq_ := HH.out.addRow hr.2 hr.1); clear HH; have HH := hid hq_; clear hq_ hr))
      go_ret
      exact RetB.mk rfl HH.out.below
  · have hb0 : (checkE l != 0) = true := by simpa using hk
    clear hk hn
    go_enter Try.func5, Try.ntmps5
    go_wp2_with (first
      | (go_at_call 11; refine (known_any _).mono ?_; rintro e w1 ⟨rfl, hb⟩; (have hq_ := HH.out.grow hb); clear HH; have HH := hid hq_; clear hq_ hb)
      | (go_at_call 13; (with_reducible refine (own_any _ _ l (HH.out.sl HL.out) HN.out).mono ?_); rintro e w2 ⟨ao2, cap2, rfl, hr⟩; (have hq_ := HH.out.addRow hr.2 hr.1); clear HH; have HH := hid hq_; clear hq_ hr)
      | (go_at_call 20; (with_reducible refine (check_any _ _ l HH.out.sl0 hn63).mono ?_); rintro e w2 ⟨rfl, hb⟩; (have hq_ := HH.out.grow hb); clear HH; have HH := hid hq_; clear hq_ hb))
    go_ret
    exact RetB.mk rfl HH.out.below
end Go.Proofs.Ytohdkmgnnncpkaa
