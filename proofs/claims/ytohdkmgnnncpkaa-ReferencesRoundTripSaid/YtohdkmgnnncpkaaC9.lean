/- has, Check of the reference; Index, Contains, Parent. Condition: lists whose length is an int. -/
import Derived.Test.YtohdkmgnnncpkaaC8
import Derived.Test.YtohdkmgnnncpkaaG
namespace Go.Proofs.Ytohdkmgnnncpkaa
open Go.RowKit
theorem Z38 : (Try.prog.info? 38).map (·.zero) = some (some (Arr.zero 32).val) := by kernel_rfl
theorem S38 : (Try.prog.info? 38).map (·.size) = some 32 := by kernel_rfl
def HasRel (w : World) (l : List Id) (x : Id) (g : Nat) (E : TypeId) (i : Value) (wr : World) : Prop :=
  ∃ k : Nat, k ≤ l.length ∧ i = .int .i64 k ∧ x ∉ l.take k ∧ Holds w [] [(g, objA x E)] [] wr
theorem not_take {l : List Id} {k : Nat} {x : Id} (h : k < l.length) (hx : x ∉ l.take k) (hn : l[k] ≠ x) : x ∉ l.take (k + 1) := by
  rw [← List.take_append_getElem h]
  intro hm
  rcases List.mem_append.1 hm with a | a
  · exact hx a
  · exact hn (show x = l[k] by simpa using a).symm
theorem contains_yes {l : List Id} {k : Nat} {x : Id} (h : k < l.length) (hx : l[k] = x) : l.contains x = true := by
  subst hx; simp
theorem contains_no {l : List Id} {x : Id} (hx : x ∉ l) : l.contains x = false := by simpa using hx
set_option maxHeartbeats 400000 in
theorem has_any (w : World) (v : Value) (l : List Id) (x : Id) (hl : Ids w v l) (hn : l.length ≤ 9223372036854775807) :
    Calls Try.prog 37 #[v, x.val] w (RetB w (l.contains x)) := by
  obtain ⟨ao, cap, rfl, _⟩ := hl.shape
  have HH := hid (Holds.init w)
  have HL := hid hl
  clear hl
  go_enter Try.func37, Try.ntmps37
  go_wp2_with (first
    | ((with_reducible apply wpList_boxA (e := 38) HH.out); rfl; rfl; (intro gx w_ hq_; clear HH; have HH := hid hq_; clear hq_)))
  go_loopw [5] (HasRel w l x gx 38) (fun i _ => l.length - (intOf i).toNat)
  case atStart => exact ⟨0, Nat.zero_le _, rfl, by simp, HH.out⟩
  case round =>
    obtain ⟨k, hk, rfl, hx, hr⟩ := hrel
    clear HH
    have HH := hid hr
    have HX := hid hx
    clear hr hx
    by_cases hlt : k < l.length
    · obtain ⟨a, cap', e⟩ := HL.out.some (by omega)
      cases e
      go_wp2
      refine wp_region_holds (by kernel_rfl) (by kernel_rfl) HH.out ?_
      repeat ((first
        | ((with_reducible apply wpQ_skip); rfl; skip)
        | ((with_reducible apply wpQ_index E22 (j := k)); go_must ((rfl; rfl; rfl; exact hlt; rfl)))
        | ((with_reducible apply wpQ_load_agg A38 (Arr.len l[k]) (x := .tmp 14)); go_must (((intro wq hwq; exact Ids.get (hwq.sl HL.out) k hlt); rfl; rfl)))
        | ((with_reducible apply wpQ_loadA A38 (v := x) (e := 38) (x := .tmp 3)); go_must ((rfl; exact .here; rfl)))
        | ((with_reducible apply wpQ_eql_arr R38 (p := l[k]) (q := x)); go_must ((rfl; rfl; rfl)))
        | ((with_reducible apply wpQ_move); rfl; rfl)
        | ((with_reducible apply wpQ_assign); rfl; rfl)
        | ((with_reducible apply wpQ_pick); rfl; rfl; rfl)
        | ((with_reducible apply wpQ_not); rfl; rfl)
        | ((with_reducible apply wpQ_cmp (b := true)); rfl; rfl; rfl; (first | rfl | assumption | (simp only [cmpB, decide_eq_true_eq, decide_eq_false_iff_not, beq_iff_eq, bne_iff_ne, ne_eq, beq_eq_false_iff_ne, bne_eq_false_iff_eq, gt_iff_lt, ge_iff_le]; omega) | (simp; omega)); rfl)
        | ((with_reducible apply wpQ_cmp (b := false)); rfl; rfl; rfl; (first | rfl | assumption | (simp only [cmpB, decide_eq_true_eq, decide_eq_false_iff_not, beq_iff_eq, bne_iff_ne, ne_eq, beq_eq_false_iff_ne, bne_eq_false_iff_eq, gt_iff_lt, ge_iff_le]; omega) | (simp; omega)); rfl)
        | ((with_reducible apply wpQ_cmp); rfl; rfl; rfl; rfl; rfl)
        | ((with_reducible apply wpQ_arith); rfl; rfl; rfl; (exact IntWalk.i64_in _ (by (try simp only [arithI]); omega)); rfl)); simp only [arithI, Act.put, Act.eval, List.setIfInBounds_toArray, List.set_cons_succ, List.set_cons_zero, Array.getD_eq_getD_getElem?, List.getElem?_toArray, List.getElem?_cons_succ, List.getElem?_cons_zero, Option.getD_some])
      refine wpQuiet_nil ?_
      intro wq hq_
      have HQ := hid hq_
      clear hq_
      go_wp2
      · have hx : (l[k] == x) = true := by assumption
        go_ret
        exact RetB.mk (contains_yes hlt (Arr.eq_of' hx)).symm HQ.out.below
      · have hx : (l[k] == x) = false := by assumption
        go_roundw
        case rel => exact ⟨k + 1, by omega, by go_num, not_take hlt HX.out (Arr.ne_of' hx), HQ.out⟩
        case measure => simp [intOf]; omega
    · go_wp2
      go_ret
      obtain rfl : k = l.length := by omega
      have h0 := HX.out
      rw [List.take_length] at h0
      exact RetB.mk (contains_no h0).symm HH.out.below
/-- What Index answers. -/
def RetIx (w : World) (l : List Id) (x : Id) (e : Ending) (w' : World) : Prop := ∃ n : Int, e = .returned (.int .i64 n) ∧ decide (n ≥ 0) = l.contains x ∧ Below w.heap.size w w'
theorem RetIx.mk {w w' : World} {l : List Id} {x : Id} {n : Int} (h : decide (n ≥ 0) = l.contains x) (hb : Below w.heap.size w w') : RetIx w l x (.returned (.int .i64 n)) w' := ⟨n, rfl, h, hb⟩
set_option maxHeartbeats 400000 in
theorem index_any (w : World) (v : Value) (l : List Id) (x : Id) (hl : Ids w v l) (hn : l.length ≤ 9223372036854775807) :
    Calls Try.prog 45 #[v, x.val] w (RetIx w l x) := by
  obtain ⟨ao, cap, rfl, _⟩ := hl.shape
  have HH := hid (Holds.init w)
  have HL := hid hl
  clear hl
  go_enter Try.func45, Try.ntmps45
  go_wp2_with (first
    | ((with_reducible apply wpList_boxA (e := 33) HH.out); rfl; rfl; (intro gx w_ hq_; clear HH; have HH := hid hq_; clear hq_)))
  go_loopw [8] (HasRel w l x gx 33) (fun i _ => l.length - (intOf i).toNat)
  case atStart => exact ⟨0, Nat.zero_le _, rfl, by simp, HH.out⟩
  case round =>
    obtain ⟨k, hk, rfl, hx, hr⟩ := hrel
    clear HH
    have HH := hid hr
    have HX := hid hx
    clear hr hx
    by_cases hlt : k < l.length
    · obtain ⟨a, cap', e⟩ := HL.out.some (by omega)
      cases e
      go_wp2
      refine wp_region_holds (by kernel_rfl) (by kernel_rfl) HH.out ?_
      repeat ((first
        | ((with_reducible apply wpQ_skip); rfl; skip)
        | ((with_reducible apply wpQ_index E24 (j := k)); go_must ((rfl; rfl; rfl; exact hlt; rfl)))
        | ((with_reducible apply wpQ_load_agg A33 (Arr.len l[k]) (x := .tmp 14)); go_must (((intro wq hwq; exact Ids.get (hwq.sl HL.out) k hlt); rfl; rfl)))
        | ((with_reducible apply wpQ_loadA A33 (v := x) (e := 33) (x := .tmp 3)); go_must ((rfl; exact .here; rfl)))
        | ((with_reducible apply wpQ_eql_arr R33 (p := x) (q := l[k])); go_must ((rfl; rfl; rfl)))
        | ((with_reducible apply wpQ_move); rfl; rfl)
        | ((with_reducible apply wpQ_assign); rfl; rfl)
        | ((with_reducible apply wpQ_pick); rfl; rfl; rfl)
        | ((with_reducible apply wpQ_not); rfl; rfl)
        | ((with_reducible apply wpQ_cmp (b := true)); rfl; rfl; rfl; (first | rfl | assumption | (simp only [cmpB, decide_eq_true_eq, decide_eq_false_iff_not, beq_iff_eq, bne_iff_ne, ne_eq, beq_eq_false_iff_ne, bne_eq_false_iff_eq, gt_iff_lt, ge_iff_le]; omega) | (simp; omega)); rfl)
        | ((with_reducible apply wpQ_cmp (b := false)); rfl; rfl; rfl; (first | rfl | assumption | (simp only [cmpB, decide_eq_true_eq, decide_eq_false_iff_not, beq_iff_eq, bne_iff_ne, ne_eq, beq_eq_false_iff_ne, bne_eq_false_iff_eq, gt_iff_lt, ge_iff_le]; omega) | (simp; omega)); rfl)
        | ((with_reducible apply wpQ_cmp); rfl; rfl; rfl; rfl; rfl)
        | ((with_reducible apply wpQ_arith); rfl; rfl; rfl; (exact IntWalk.i64_in _ (by (try simp only [arithI]); omega)); rfl)); simp only [arithI, Act.put, Act.eval, List.setIfInBounds_toArray, List.set_cons_succ, List.set_cons_zero, Array.getD_eq_getD_getElem?, List.getElem?_toArray, List.getElem?_cons_succ, List.getElem?_cons_zero, Option.getD_some])
      refine wpQuiet_nil ?_
      intro wq hq_
      have HQ := hid hq_
      clear hq_
      go_wp2
      · have hx : (x == l[k]) = true := by assumption
        go_ret
        exact RetIx.mk (by rw [contains_yes hlt (Arr.eq_of' hx).symm]; simp) HQ.out.below
      · have hx : (x == l[k]) = false := by assumption
        go_roundw
        case rel => exact ⟨k + 1, by omega, by go_num, not_take hlt HX.out (Arr.ne_of' hx).symm, HQ.out⟩
        case measure => simp [intOf]; omega
    · go_wp2
      go_ret
      obtain rfl : k = l.length := by omega
      have h0 := HX.out
      rw [List.take_length] at h0
      exact RetIx.mk (by rw [contains_no h0]; decide) HH.out.below
set_option maxHeartbeats 400000 in
theorem contains_any (w : World) (v : Value) (l : List Id) (x : Id) (hl : Ids w v l) (hn : l.length ≤ 9223372036854775807) :
    Calls Try.prog 35 #[v, x.val] w (RetB w (l.contains x)) := by
  obtain ⟨ao, cap, rfl, _⟩ := hl.shape
  have HH := hid (Holds.init w)
  have HL := hid hl
  clear hl
  go_enter Try.func35, Try.ntmps35
  go_wp2_with (first
    | (go_at_call 45; (with_reducible refine (index_any _ _ l x (HH.out.sl HL.out) (by omega)).mono ?_); rintro e w2 ⟨nn, rfl, hd, hb⟩; (have hq_ := HH.out.grow hb); clear HH; have HH := hid hq_; clear hq_ hb; have HD := hid hd; clear hd)
    | ((with_reducible apply wpList_loadA A33 HH.out); rfl; (first | exact .here | exact .there .here | exact .there (.there .here) | exact .there (.there (.there .here)) | exact .there (.there (.there (.there .here))) | exact .there (.there (.there (.there (.there .here))))); rfl)
    | ((with_reducible apply wpList_allocA Z33 HH.out); go_must ((rfl; (intro g_ w_ hq_; clear HH; have HH := hid hq_; clear hq_))))
    | ((with_reducible apply wpList_storeA S33 HH.out); go_must ((rfl; rfl; (first | exact .here | exact .there .here | exact .there (.there .here) | exact .there (.there (.there .here)) | exact .there (.there (.there (.there .here))) | exact .there (.there (.there (.there (.there .here))))); rfl; (intro w_ hq_; clear HH; have HH := hid hq_; clear hq_))))
    | ((with_reducible apply wpList_boxA (e := 33) HH.out); rfl; rfl; (intro g_ w_ hq_; clear HH; have HH := hid hq_; clear hq_)))
  go_ret
  exact RetB.mk HD.out HH.out.below
def RetP (w : World) (l : List Id) (e : Ending) (w' : World) : Prop := e = .returned (.tuple #[(l.getLastD Id0).val, .bool (decide (0 < l.length))]) ∧ Below w.heap.size w w'
set_option maxHeartbeats 400000 in
theorem parent_any (w : World) (v : Value) (l : List Id) (hl : Ids w v l) (hn : l.length ≤ 9223372036854775807) :
    Calls Try.prog 19 #[v] w (RetP w l) := by
  obtain ⟨ao, cap, rfl, _⟩ := hl.shape
  have HH := hid (Holds.init w)
  have HL := hid hl
  clear hl
  by_cases h0 : l.length = 0
  · have e : l = [] := List.eq_nil_of_length_eq_zero h0
    subst e
    go_enter Try.func19, Try.ntmps19
    go_wp2_with (first
      | ((with_reducible apply wpList_build (parts := #[]) (v := Id0.val)); (exact BZ); rfl)
      | ((with_reducible apply wpList_loadA A33 HH.out); rfl; (first | exact .here | exact .there .here | exact .there (.there .here) | exact .there (.there (.there .here)) | exact .there (.there (.there (.there .here))) | exact .there (.there (.there (.there (.there .here))))); rfl)
      | ((with_reducible apply wpList_allocA Z33 HH.out); go_must ((rfl; (intro g_ w_ hq_; clear HH; have HH := hid hq_; clear hq_))))
      | ((with_reducible apply wpList_storeA S33 HH.out); go_must ((rfl; rfl; (first | exact .here | exact .there .here | exact .there (.there .here) | exact .there (.there (.there .here)) | exact .there (.there (.there (.there .here))) | exact .there (.there (.there (.there (.there .here))))); rfl; (intro w_ hq_; clear HH; have HH := hid hq_; clear hq_))))
      | ((with_reducible apply wpList_boxA (e := 33) HH.out); rfl; rfl; (intro g_ w_ hq_; clear HH; have HH := hid hq_; clear hq_)))
    refine bodyPost_ret (res2 rfl (resA A33 HH.out (by rfl) .here) (by rfl)) rfl ?_
    exact ⟨rfl, HH.out.below⟩
  · obtain ⟨a, cap', e⟩ := HL.out.some (by omega)
    cases e
    have hx : l.length - 1 < l.length := by omega
    have e0 : ((l.length : Int) - 1) = ((l.length - 1 : Nat) : Int) := by omega
    have e1 : l.getLastD Id0 = l[l.length - 1] := by rw [List.getLastD_eq_getLast?, List.getLast?_eq_getElem?, List.getElem?_eq_getElem hx]; rfl
    have E1 := hid e1
    clear e1
    go_enter Try.func19, Try.ntmps19
    go_wp2_with (first
      | ((with_reducible apply wpList_load_agg A33 (Arr.len l[l.length - 1]) (Ids.get (HH.out.sl HL.out) (l.length - 1) hx)); rfl; rfl)
      | ((with_reducible apply wpList_loadA A33 HH.out); rfl; (first | exact .here | exact .there .here | exact .there (.there .here) | exact .there (.there (.there .here)) | exact .there (.there (.there (.there .here))) | exact .there (.there (.there (.there (.there .here))))); rfl)
      | ((with_reducible apply wpList_allocA Z33 HH.out); go_must ((rfl; (intro g_ w_ hq_; clear HH; have HH := hid hq_; clear hq_))))
      | ((with_reducible apply wpList_storeA S33 HH.out); go_must ((rfl; rfl; (first | exact .here | exact .there .here | exact .there (.there .here) | exact .there (.there (.there .here)) | exact .there (.there (.there (.there .here))) | exact .there (.there (.there (.there (.there .here))))); rfl; (intro w_ hq_; clear HH; have HH := hid hq_; clear hq_))))
      | ((with_reducible apply wpList_boxA (e := 33) HH.out); rfl; rfl; (intro g_ w_ hq_; clear HH; have HH := hid hq_; clear hq_)))
    refine bodyPost_ret (res2 rfl (resA A33 HH.out (by rfl) .here) (by rfl)) rfl ?_
    exact ⟨by rw [E1.out, decide_eq_true (by omega)]; rfl, HH.out.below⟩
end Go.Proofs.Ytohdkmgnnncpkaa
