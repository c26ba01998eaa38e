/- Check of the reference. Condition: lists whose length is an int. -/
import Derived.Test.YtohdkmgnnncpkaaC9
namespace Go.Proofs.Ytohdkmgnnncpkaa
open Go.RowKit
theorem B37 : Body Try.prog 37 := ⟨_, _, Try.func37, rfl, rfl⟩
def CheckRRel (w : World) (l : List Id) (i : Value) (wr : World) : Prop :=
  ∃ k : Nat, k ≤ l.length ∧ i = .int .i64 k ∧ checkFrom [] l = checkFrom (l.take k) (l.drop k) ∧ Holds w [] [] [] wr
theorem addE_one {l : List Id} {x : Id} (h : (x == Id0) = true) : addE l x = 1 := by unfold addE; rw [h]; rfl
theorem addE_seven {l : List Id} {x : Id} (h : (x == Id0) = false) (hc : l.contains x = true) : addE l x = 7 := by unfold addE; rw [h, hc]; rfl
theorem addE_zero {l : List Id} {x : Id} (h : (x == Id0) = false) (hc : l.contains x = false) : addE l x = 0 := by unfold addE; rw [h, hc]; rfl
theorem check_stop {l : List Id} {k : Nat} {n : Int} (h : k < l.length) (hk : checkFrom [] l = checkFrom (l.take k) (l.drop k)) (ha : addE (l.take k) l[k] = n) (hn : n ≠ 0) : checkFrom [] l = n := by
  rw [hk, check_step h, if_neg (by rw [ha]; exact hn), ha]
theorem check_go {l : List Id} {k : Nat} (h : k < l.length) (hk : checkFrom [] l = checkFrom (l.take k) (l.drop k)) (ha : addE (l.take k) l[k] = 0) : checkFrom [] l = checkFrom (l.take (k + 1)) (l.drop (k + 1)) := by
  rw [hk, check_step h, if_pos ha]
set_option maxRecDepth 100000 in
set_option maxHeartbeats 1000000 in
theorem checkR_any (w : World) (v : Value) (l : List Id) (hl : Ids w v l) (hn : l.length ≤ 9223372036854775807) :
    Calls Try.prog 36 #[v] w (RetI w (checkE l)) := by
  obtain ⟨ao, cap, rfl, hcap⟩ := hl.shape
  have HH := hid (Holds.init w)
  have HL := hid hl
  clear hl
  by_cases hlen : 20 < l.length
  · have e : checkE l = 9 := by unfold checkE; rw [if_pos hlen]
    rw [e]
    clear e
    go_enter Try.func36, Try.ntmps36
    go_wp2
    go_ret
    exact RetI.mk rfl (Below.refl _ _)
  · have e : checkE l = checkFrom [] l := by unfold checkE; rw [if_neg hlen]
    rw [e]
    clear e
    go_enter Try.func36, Try.ntmps36
    go_wp2
    go_loopw [3] (CheckRRel w l) (fun i _ => l.length - (intOf i).toNat)
    case atStart => exact ⟨0, Nat.zero_le _, rfl, by simp, HH.out⟩
    case round =>
      obtain ⟨k, hk, rfl, hck, hr⟩ := hrel
      clear HH
      have HH := hid hr
      have HK := hid hck
      clear hr hck
      by_cases hlt : k < l.length
      · obtain ⟨a, cap', e⟩ := HL.out.some (by omega)
        cases e
        go_wp2_with (first
          | ((with_reducible apply wpList_load_agg A38 (Arr.len l[k]) (Ids.get (HH.out.sl HL.out) k hlt)); rfl; rfl)
          | ((with_reducible apply wpList_build (parts := #[]) (v := Id0.val)); (exact BZ38); rfl)
          | ((with_reducible apply wpList_eql_arr R38 (p := l[k]) (q := Id0)); rfl; rfl; rfl))
        · have hx : (l[k] == Id0) = true := by assumption
          go_ret
          exact RetI.mk (check_stop hlt HK.out (addE_one hx) (by decide)).symm HH.out.below
        · have hx : (l[k] == Id0) = false := by assumption
          have HT := hid (Ids.of (HL.out.take (j := k) (by omega)) (l := l.take k) (by simp; omega) (flat_take l k))
          refine wp_region_holds (by kernel_rfl) (by kernel_rfl) HH.out ?_
          repeat ((first
            | ((with_reducible apply wpQ_skip); rfl; skip)
            | ((with_reducible apply wpQ_slice_to E22 (j := k)); go_must ((rfl; rfl; rfl; (exact (by omega)); rfl)))
            | ((with_reducible apply wpQ_index E22 (j := k)); go_must ((rfl; rfl; rfl; exact hlt; rfl)))
            | ((with_reducible apply wpQ_load_agg A38 (Arr.len l[k]) (x := .tmp 24)); go_must (((intro wq hwq; exact Ids.get (hwq.sl HL.out) k hlt); rfl; rfl)))
            | ((with_reducible apply wpQ_call B37 (v := .bool ((l.take k).contains l[k]))); go_must ((rfl; (intro wq hwq; exact (has_any wq _ _ _ (hwq.sl HT.out) (by simp; omega)).mono fun e w' ⟨he, hb⟩ => ⟨he, hwq.grow hb⟩); rfl)))
            | ((with_reducible apply wpQ_move); rfl; rfl)
            | ((with_reducible apply wpQ_assign); rfl; rfl)
            | ((with_reducible apply wpQ_pick); rfl; rfl; rfl)
            | ((with_reducible apply wpQ_not); rfl; rfl)
            | ((with_reducible apply wpQ_cmp (b := true)); rfl; rfl; rfl; (first | rfl | assumption | (simp only [cmpB, decide_eq_true_eq, decide_eq_false_iff_not, beq_iff_eq, bne_iff_ne, ne_eq, beq_eq_false_iff_ne, bne_eq_false_iff_eq, gt_iff_lt, ge_iff_le]; omega) | (simp; omega)); rfl)
            | ((with_reducible apply wpQ_cmp (b := false)); rfl; rfl; rfl; (first | rfl | assumption | (simp only [cmpB, decide_eq_true_eq, decide_eq_false_iff_not, beq_iff_eq, bne_iff_ne, ne_eq, beq_eq_false_iff_ne, bne_eq_false_iff_eq, gt_iff_lt, ge_iff_le]; omega) | (simp; omega)); rfl)
            | ((with_reducible apply wpQ_cmp); rfl; rfl; rfl; rfl; rfl)
            | ((with_reducible apply wpQ_arith); rfl; rfl; rfl; (exact IntWalk.i64_in _ (by (try simp only [arithI]); omega)); rfl)); simp only [arithI, Act.put, Act.eval, List.setIfInBounds_toArray, List.set_cons_succ, List.set_cons_zero, Array.getD_eq_getD_getElem?, List.getElem?_toArray, List.getElem?_cons_succ, List.getElem?_cons_zero, Option.getD_some])
          refine wpQuiet_nil ?_
          intro wq hq_
          have HQ := hid hq_
          clear hq_
          go_wp2
          · have hc : (l.take k).contains l[k] = true := by assumption
            go_ret
            exact RetI.mk (check_stop hlt HK.out (addE_seven hx hc) (by decide)).symm HQ.out.below
          · have hc : (l.take k).contains l[k] = false := by assumption
            go_roundw
            case rel => exact ⟨k + 1, by omega, by go_num, check_go hlt HK.out (addE_zero hx hc), HQ.out⟩
            case measure => simp [intOf]; omega
      · go_wp2
        go_ret
        obtain rfl : k = l.length := by omega
        have h0 := HK.out
        rw [List.drop_length, List.take_length] at h0
        exact RetI.mk h0.symm HH.out.below
end Go.Proofs.Ytohdkmgnnncpkaa
