/- Every leaf is verified by its path, plainly. Condition: at most ten levels. -/
import Derived.Test.YtgkfopodhikckaaQ4b5831e
import Derived.Deep.Strs
set_option linter.unusedSimpArgs false
set_option linter.unusedVariables false
/- From and Verify of merkle. Condition: at most 10^9 nodes. -/
namespace Go.Proofs.Ytgkfopodhikckaa
open Go.RowKit
attribute [local irreducible] wpQuiet wpList
theorem res0 {P : Program} {w : World} {fn : Func} {tmps : Array Value} (h : fn.results = #[]) : (results fn tmps).run P w = .ok (.tuple #[]) w := by
  rw [results_eq, h]; simp
set_option maxRecDepth 100000 in
set_option maxHeartbeats 2000000 in
theorem from1_any (w : World) (k : Int) (x y : Nd) : Calls Try.prog 77 #[.int .i64 k, x.val, y.val] w (fun e w' => e = .returned (.tuple #[]) ∧ Below w.heap.size w w') := by
  have HH := hid (Holds.init w)
  go_enter Try.func77, Try.ntmps77
  go_wp2_with (first
    | ((first
        | ((with_reducible apply wpL_skip); rfl; skip)
        | ((with_reducible apply wpL_nilCheck); rfl; rfl)
        | ((with_reducible apply wpL_boxArr (dst := some 4)); rfl; (exact HH.out); rfl; (intro g4_ w_ hq_; (try simp only [List.set_cons_zero, List.set_cons_succ] at hq_); clear HH; have HH := hid hq_; clear hq_))
        | ((with_reducible apply wpL_boxArr (dst := some 5)); rfl; (exact HH.out); rfl; (intro g5_ w_ hq_; (try simp only [List.set_cons_zero, List.set_cons_succ] at hq_); clear HH; have HH := hid hq_; clear hq_))
        | ((with_reducible apply wpL_move); rfl; rfl)
        | ((with_reducible apply wpL_assign); rfl; rfl)
        | ((with_reducible apply wpL_pick); rfl; rfl; rfl)
        | ((with_reducible apply wpL_not); rfl; rfl)
        | ((with_reducible apply wpL_cmp (b := true)); rfl; rfl; rfl; (first | rfl | assumption | (simp only [cmpB, decide_eq_true_eq, decide_eq_false_iff_not, beq_iff_eq, bne_iff_ne, ne_eq, beq_eq_false_iff_ne, bne_eq_false_iff_eq, gt_iff_lt, ge_iff_le]; omega) | (simp; omega)); rfl)
        | ((with_reducible apply wpL_cmp (b := false)); rfl; rfl; rfl; (first | rfl | assumption | (simp only [cmpB, decide_eq_true_eq, decide_eq_false_iff_not, beq_iff_eq, bne_iff_ne, ne_eq, beq_eq_false_iff_ne, bne_eq_false_iff_eq, gt_iff_lt, ge_iff_le]; omega) | (simp; omega)); rfl)
        | ((with_reducible apply wpL_cmp); rfl; rfl; rfl; rfl; rfl)
        | ((with_reducible apply wpL_arith); rfl; rfl; rfl; (exact IntWalk.i64_in _ (by (try simp only [arithI]); omega)); rfl)); (try simp only [arithI, Act.put, Act.eval, List.setIfInBounds_toArray, List.set_cons_succ, List.set_cons_zero, Array.getD_eq_getD_getElem?, List.getElem?_toArray, List.getElem?_cons_succ, List.getElem?_cons_zero, Option.getD_some])))
  exact ⟨rfl, _, res0 rfl, rfl, HH.out.dropBlk.dropBlk.below⟩
def fromC (i : Int) (n : Nat) : Int := if 10 < n then 9 else if i < 0 ∨ ((2 ^ n : Nat) : Int) ≤ i then 8 else 0
def fromV (x : Nd) (i : Int) (p : List Nd) : Nd := if fromC i p.length = 0 then curAt i.toNat x p p.length else Nd0
set_option maxRecDepth 100000 in
set_option maxHeartbeats 4000000 in
theorem from_any (w : World) (v : Value) (x : Nd) (i : Int) (p : List Nd) (hp : Arrs w v p) (hn : p.length ≤ 1000000000) : Calls Try.prog 54 #[x.val, .int .i64 i, v] w (RetR w (fromV x i p) (fromC i p.length)) := by
  obtain ⟨ao, cap, rfl, _⟩ := hp.shape
  have HP := hid hp
  clear hp
  have HH := hid (Holds.init w)
  by_cases h10 : 10 < p.length
  · have e1 : fromC i p.length = 9 := by unfold fromC; rw [if_pos h10]
    have e2 : fromV x i p = Nd0 := by unfold fromV; rw [e1]; rfl
    rw [e1, e2]
    clear e1 e2
    go_enter Try.func54, Try.ntmps54
    go_wp2_with (first
      | ((first
          | ((with_reducible apply wpL_skip); rfl; skip)
          | ((with_reducible apply wpList_build (parts := #[]) (v := Nd0.val)); (exact BZ34); rfl)
          | ((with_reducible apply wpL_storeC (t := 34) (vs := Nd0.cells)); rfl; rfl; (exact kS34); (exact HH.out); (exact .here); (exact Arr.len _); (exact cells_one _); (exact Arr.len _); rfl; (intro w_ hq_; clear HH; have HH := hid hq_; clear hq_))
          | ((with_reducible apply wpL_nilCheck); rfl; rfl)
          | ((with_reducible apply wpL_loadArr (t := 34) kA34 HH.out); rfl; (first | exact .here | exact .there .here | exact .there (.there .here) | exact .there (.there (.there .here)) | exact .there (.there (.there (.there .here))) | exact .there (.there (.there (.there (.there .here)))) | exact .there (.there (.there (.there (.there (.there .here))))) | exact .there (.there (.there (.there (.there (.there (.there .here))))))); rfl)
          | ((with_reducible apply wpL_loadC (t := 34) kA34 HH.out); rfl; (first | exact .here | exact .there .here | exact .there (.there .here) | exact .there (.there (.there .here)) | exact .there (.there (.there (.there .here))) | exact .there (.there (.there (.there (.there .here)))) | exact .there (.there (.there (.there (.there (.there .here))))) | exact .there (.there (.there (.there (.there (.there (.there .here))))))); (first | rfl | exact Arr.len _ | (simp; done)); rfl)
          | ((with_reducible apply wpL_len (t := 46) Try.underlying46); rfl; rfl)
          | ((with_reducible apply wpL_boxArr (dst := some 3)); rfl; (exact HH.out); rfl; (intro g3_ w_ hq_; (try simp only [List.set_cons_zero, List.set_cons_succ] at hq_); clear HH; have HH := hid hq_; clear hq_))
          | ((with_reducible apply wpL_allocC (dst := some 6) kZ34 HH.out); rfl; (intro g6_ w_ hq_; (try simp only [List.set_cons_zero, List.set_cons_succ] at hq_); clear HH; have HH := hid hq_; clear hq_))
          | ((with_reducible apply wpL_storeArr (t := 34) kS34 HH.out); rfl; rfl; (first | exact .here | exact .there .here | exact .there (.there .here) | exact .there (.there (.there .here)) | exact .there (.there (.there (.there .here))) | exact .there (.there (.there (.there (.there .here)))) | exact .there (.there (.there (.there (.there (.there .here))))) | exact .there (.there (.there (.there (.there (.there (.there .here))))))); (first | rfl | exact Arr.len _ | (simp; done)); rfl; (intro w_ hq_; (try simp only [List.set_cons_zero, List.set_cons_succ] at hq_); clear HH; have HH := hid hq_; clear hq_))
          | ((with_reducible apply wpL_storeC (t := 34)); rfl; rfl; (exact kS34); (exact HH.out); (first | exact .here | exact .there .here | exact .there (.there .here) | exact .there (.there (.there .here)) | exact .there (.there (.there (.there .here))) | exact .there (.there (.there (.there (.there .here)))) | exact .there (.there (.there (.there (.there (.there .here))))) | exact .there (.there (.there (.there (.there (.there (.there .here))))))); (first | rfl | exact Arr.len _ | (simp; done)); (first | rfl | (intro u_ hu_; simp only [List.mem_cons, List.not_mem_nil, or_false] at hu_; rcases hu_ with rfl | hu_; rfl) | exact byt_cell1 _ | exact cells_one _ | exact wrd_one _ | exact flat_cell1 _); (first | rfl | exact Arr.len _ | (simp; done)); rfl; (intro w_ hq_; (try simp only [List.set_cons_zero, List.set_cons_succ] at hq_); clear HH; have HH := hid hq_; clear hq_))
          | ((with_reducible apply wpL_move); rfl; rfl)
          | ((with_reducible apply wpL_assign); rfl; rfl)
          | ((with_reducible apply wpL_pick); rfl; rfl; rfl)
          | ((with_reducible apply wpL_not); rfl; rfl)
          | ((with_reducible apply wpL_cmp (b := true)); rfl; rfl; rfl; (first | rfl | assumption | (simp only [cmpB, decide_eq_true_eq, decide_eq_false_iff_not, beq_iff_eq, bne_iff_ne, ne_eq, beq_eq_false_iff_ne, bne_eq_false_iff_eq, gt_iff_lt, ge_iff_le]; omega) | (simp; omega)); rfl)
          | ((with_reducible apply wpL_cmp (b := false)); rfl; rfl; rfl; (first | rfl | assumption | (simp only [cmpB, decide_eq_true_eq, decide_eq_false_iff_not, beq_iff_eq, bne_iff_ne, ne_eq, beq_eq_false_iff_ne, bne_eq_false_iff_eq, gt_iff_lt, ge_iff_le]; omega) | (simp; omega)); rfl)
          | ((with_reducible apply wpL_cmp); rfl; rfl; rfl; rfl; rfl)
          | ((with_reducible apply wpL_arith); rfl; rfl; rfl; (exact IntWalk.i64_in _ (by (try simp only [arithI]); omega)); rfl)); (try simp only [arithI, Act.put, Act.eval, List.setIfInBounds_toArray, List.set_cons_succ, List.set_cons_zero, Array.getD_eq_getD_getElem?, List.getElem?_toArray, List.getElem?_cons_succ, List.getElem?_cons_zero, Option.getD_some])))
    refine bodyPost_ret (res2 rfl (resC kA34 HH.out (by rfl) .here (Arr.len _)) (by rfl)) rfl ?_
    exact RetR.mk rfl rfl HH.out.dropBlk.dropBlk.below
  · by_cases h0 : i < 0
    · have e1 : fromC i p.length = 8 := by unfold fromC; rw [if_neg h10, if_pos (.inl h0)]
      have e2 : fromV x i p = Nd0 := by unfold fromV; rw [e1]; rfl
      rw [e1, e2]
      clear e1 e2
      go_enter Try.func54, Try.ntmps54
      go_wp2_with (first
        | ((first
            | ((with_reducible apply wpL_skip); rfl; skip)
            | ((with_reducible apply wpList_build (parts := #[]) (v := Nd0.val)); (exact BZ34); rfl)
            | ((with_reducible apply wpL_storeC (t := 34) (vs := Nd0.cells)); rfl; rfl; (exact kS34); (exact HH.out); (exact .here); (exact Arr.len _); (exact cells_one _); (exact Arr.len _); rfl; (intro w_ hq_; clear HH; have HH := hid hq_; clear hq_))
            | ((with_reducible apply wpL_nilCheck); rfl; rfl)
            | ((with_reducible apply wpL_loadArr (t := 34) kA34 HH.out); rfl; (first | exact .here | exact .there .here | exact .there (.there .here) | exact .there (.there (.there .here)) | exact .there (.there (.there (.there .here))) | exact .there (.there (.there (.there (.there .here)))) | exact .there (.there (.there (.there (.there (.there .here))))) | exact .there (.there (.there (.there (.there (.there (.there .here))))))); rfl)
            | ((with_reducible apply wpL_loadC (t := 34) kA34 HH.out); rfl; (first | exact .here | exact .there .here | exact .there (.there .here) | exact .there (.there (.there .here)) | exact .there (.there (.there (.there .here))) | exact .there (.there (.there (.there (.there .here)))) | exact .there (.there (.there (.there (.there (.there .here))))) | exact .there (.there (.there (.there (.there (.there (.there .here))))))); (first | rfl | exact Arr.len _ | (simp; done)); rfl)
            | ((with_reducible apply wpL_len (t := 46) Try.underlying46); rfl; rfl)
            | ((with_reducible apply wpL_boxArr (dst := some 3)); rfl; (exact HH.out); rfl; (intro g3_ w_ hq_; (try simp only [List.set_cons_zero, List.set_cons_succ] at hq_); clear HH; have HH := hid hq_; clear hq_))
            | ((with_reducible apply wpL_allocC (dst := some 6) kZ34 HH.out); rfl; (intro g6_ w_ hq_; (try simp only [List.set_cons_zero, List.set_cons_succ] at hq_); clear HH; have HH := hid hq_; clear hq_))
            | ((with_reducible apply wpL_storeArr (t := 34) kS34 HH.out); rfl; rfl; (first | exact .here | exact .there .here | exact .there (.there .here) | exact .there (.there (.there .here)) | exact .there (.there (.there (.there .here))) | exact .there (.there (.there (.there (.there .here)))) | exact .there (.there (.there (.there (.there (.there .here))))) | exact .there (.there (.there (.there (.there (.there (.there .here))))))); (first | rfl | exact Arr.len _ | (simp; done)); rfl; (intro w_ hq_; (try simp only [List.set_cons_zero, List.set_cons_succ] at hq_); clear HH; have HH := hid hq_; clear hq_))
            | ((with_reducible apply wpL_storeC (t := 34)); rfl; rfl; (exact kS34); (exact HH.out); (first | exact .here | exact .there .here | exact .there (.there .here) | exact .there (.there (.there .here)) | exact .there (.there (.there (.there .here))) | exact .there (.there (.there (.there (.there .here)))) | exact .there (.there (.there (.there (.there (.there .here))))) | exact .there (.there (.there (.there (.there (.there (.there .here))))))); (first | rfl | exact Arr.len _ | (simp; done)); (first | rfl | (intro u_ hu_; simp only [List.mem_cons, List.not_mem_nil, or_false] at hu_; rcases hu_ with rfl | hu_; rfl) | exact byt_cell1 _ | exact cells_one _ | exact wrd_one _ | exact flat_cell1 _); (first | rfl | exact Arr.len _ | (simp; done)); rfl; (intro w_ hq_; (try simp only [List.set_cons_zero, List.set_cons_succ] at hq_); clear HH; have HH := hid hq_; clear hq_))
            | ((with_reducible apply wpL_move); rfl; rfl)
            | ((with_reducible apply wpL_assign); rfl; rfl)
            | ((with_reducible apply wpL_pick); rfl; rfl; rfl)
            | ((with_reducible apply wpL_not); rfl; rfl)
            | ((with_reducible apply wpL_cmp (b := true)); rfl; rfl; rfl; (first | rfl | assumption | (simp only [cmpB, decide_eq_true_eq, decide_eq_false_iff_not, beq_iff_eq, bne_iff_ne, ne_eq, beq_eq_false_iff_ne, bne_eq_false_iff_eq, gt_iff_lt, ge_iff_le]; omega) | (simp; omega)); rfl)
            | ((with_reducible apply wpL_cmp (b := false)); rfl; rfl; rfl; (first | rfl | assumption | (simp only [cmpB, decide_eq_true_eq, decide_eq_false_iff_not, beq_iff_eq, bne_iff_ne, ne_eq, beq_eq_false_iff_ne, bne_eq_false_iff_eq, gt_iff_lt, ge_iff_le]; omega) | (simp; omega)); rfl)
            | ((with_reducible apply wpL_cmp); rfl; rfl; rfl; rfl; rfl)
            | ((with_reducible apply wpL_arith); rfl; rfl; rfl; (exact IntWalk.i64_in _ (by (try simp only [arithI]); omega)); rfl)); (try simp only [arithI, Act.put, Act.eval, List.setIfInBounds_toArray, List.set_cons_succ, List.set_cons_zero, Array.getD_eq_getD_getElem?, List.getElem?_toArray, List.getElem?_cons_succ, List.getElem?_cons_zero, Option.getD_some])))
      refine bodyPost_ret (res2 rfl (resC kA34 HH.out (by rfl) .here (Arr.len _)) (by rfl)) rfl ?_
      exact RetR.mk rfl rfl HH.out.dropBlk.dropBlk.below
    · obtain ⟨j, rfl⟩ : ∃ j : Nat, i = j := ⟨i.toNat, by omega⟩
      obtain ⟨q, hq⟩ : ∃ q, 2 ^ p.length = q := ⟨_, rfl⟩
      have hq10 : q ≤ 1024 := by rw [← hq]; exact Nat.le_trans (Nat.pow_le_pow_right (by decide) (show p.length ≤ 10 by omega)) (by decide)
      have HQ1 := hid (show 1 * 2 ^ p.length = q by rw [Nat.one_mul, hq])
      have HW := hid (show IntKind.i64.wrap ((q : Nat) : Int) = (q : Int) from IntWalk.i64_in _ (by omega))
      by_cases hj : q ≤ j
      · have e1 : fromC (j : Int) p.length = 8 := by unfold fromC; rw [if_neg h10, if_pos (.inr (by rw [hq]; omega))]
        have e2 : fromV x (j : Int) p = Nd0 := by unfold fromV; rw [e1]; rfl
        rw [e1, e2]
        clear e1 e2 hq
        go_enter Try.func54, Try.ntmps54
        go_wp2_with (first
          | ((first
              | ((with_reducible apply wpL_skip); rfl; skip)
              | ((with_reducible apply wpL_shlP (m := 1) (k := p.length) (r := q)); rfl; rfl; rfl; rfl; (exact (by omega)); (exact HQ1.out); (exact HW.out); rfl)
              | ((with_reducible apply wpList_build (parts := #[]) (v := Nd0.val)); (exact BZ34); rfl)
              | ((with_reducible apply wpL_storeC (t := 34) (vs := Nd0.cells)); rfl; rfl; (exact kS34); (exact HH.out); (exact .here); (exact Arr.len _); (exact cells_one _); (exact Arr.len _); rfl; (intro w_ hq_; clear HH; have HH := hid hq_; clear hq_))
              | ((with_reducible apply wpL_nilCheck); rfl; rfl)
              | ((with_reducible apply wpL_loadArr (t := 34) kA34 HH.out); rfl; (first | exact .here | exact .there .here | exact .there (.there .here) | exact .there (.there (.there .here)) | exact .there (.there (.there (.there .here))) | exact .there (.there (.there (.there (.there .here)))) | exact .there (.there (.there (.there (.there (.there .here))))) | exact .there (.there (.there (.there (.there (.there (.there .here))))))); rfl)
              | ((with_reducible apply wpL_loadC (t := 34) kA34 HH.out); rfl; (first | exact .here | exact .there .here | exact .there (.there .here) | exact .there (.there (.there .here)) | exact .there (.there (.there (.there .here))) | exact .there (.there (.there (.there (.there .here)))) | exact .there (.there (.there (.there (.there (.there .here))))) | exact .there (.there (.there (.there (.there (.there (.there .here))))))); (first | rfl | exact Arr.len _ | (simp; done)); rfl)
              | ((with_reducible apply wpL_len (t := 46) Try.underlying46); rfl; rfl)
              | ((with_reducible apply wpL_boxArr (dst := some 3)); rfl; (exact HH.out); rfl; (intro g3_ w_ hq_; (try simp only [List.set_cons_zero, List.set_cons_succ] at hq_); clear HH; have HH := hid hq_; clear hq_))
              | ((with_reducible apply wpL_allocC (dst := some 6) kZ34 HH.out); rfl; (intro g6_ w_ hq_; (try simp only [List.set_cons_zero, List.set_cons_succ] at hq_); clear HH; have HH := hid hq_; clear hq_))
              | ((with_reducible apply wpL_storeArr (t := 34) kS34 HH.out); rfl; rfl; (first | exact .here | exact .there .here | exact .there (.there .here) | exact .there (.there (.there .here)) | exact .there (.there (.there (.there .here))) | exact .there (.there (.there (.there (.there .here)))) | exact .there (.there (.there (.there (.there (.there .here))))) | exact .there (.there (.there (.there (.there (.there (.there .here))))))); (first | rfl | exact Arr.len _ | (simp; done)); rfl; (intro w_ hq_; (try simp only [List.set_cons_zero, List.set_cons_succ] at hq_); clear HH; have HH := hid hq_; clear hq_))
              | ((with_reducible apply wpL_storeC (t := 34)); rfl; rfl; (exact kS34); (exact HH.out); (first | exact .here | exact .there .here | exact .there (.there .here) | exact .there (.there (.there .here)) | exact .there (.there (.there (.there .here))) | exact .there (.there (.there (.there (.there .here)))) | exact .there (.there (.there (.there (.there (.there .here))))) | exact .there (.there (.there (.there (.there (.there (.there .here))))))); (first | rfl | exact Arr.len _ | (simp; done)); (first | rfl | (intro u_ hu_; simp only [List.mem_cons, List.not_mem_nil, or_false] at hu_; rcases hu_ with rfl | hu_; rfl) | exact byt_cell1 _ | exact cells_one _ | exact wrd_one _ | exact flat_cell1 _); (first | rfl | exact Arr.len _ | (simp; done)); rfl; (intro w_ hq_; (try simp only [List.set_cons_zero, List.set_cons_succ] at hq_); clear HH; have HH := hid hq_; clear hq_))
              | ((with_reducible apply wpL_move); rfl; rfl)
              | ((with_reducible apply wpL_assign); rfl; rfl)
              | ((with_reducible apply wpL_pick); rfl; rfl; rfl)
              | ((with_reducible apply wpL_not); rfl; rfl)
              | ((with_reducible apply wpL_cmp (b := true)); rfl; rfl; rfl; (first | rfl | assumption | (simp only [cmpB, decide_eq_true_eq, decide_eq_false_iff_not, beq_iff_eq, bne_iff_ne, ne_eq, beq_eq_false_iff_ne, bne_eq_false_iff_eq, gt_iff_lt, ge_iff_le]; omega) | (simp; omega)); rfl)
              | ((with_reducible apply wpL_cmp (b := false)); rfl; rfl; rfl; (first | rfl | assumption | (simp only [cmpB, decide_eq_true_eq, decide_eq_false_iff_not, beq_iff_eq, bne_iff_ne, ne_eq, beq_eq_false_iff_ne, bne_eq_false_iff_eq, gt_iff_lt, ge_iff_le]; omega) | (simp; omega)); rfl)
              | ((with_reducible apply wpL_cmp); rfl; rfl; rfl; rfl; rfl)
              | ((with_reducible apply wpL_arith); rfl; rfl; rfl; (exact IntWalk.i64_in _ (by (try simp only [arithI]); omega)); rfl)); (try simp only [arithI, Act.put, Act.eval, List.setIfInBounds_toArray, List.set_cons_succ, List.set_cons_zero, Array.getD_eq_getD_getElem?, List.getElem?_toArray, List.getElem?_cons_succ, List.getElem?_cons_zero, Option.getD_some])))
        refine bodyPost_ret (res2 rfl (resC kA34 HH.out (by rfl) .here (Arr.len _)) (by rfl)) rfl ?_
        exact RetR.mk rfl rfl HH.out.dropBlk.dropBlk.below
      · have e1 : fromC (j : Int) p.length = 0 := by unfold fromC; rw [if_neg h10, if_neg (by rw [hq]; omega)]
        obtain ⟨d, hd⟩ : ∃ d, curAt j x p p.length = d := ⟨_, rfl⟩
        have e2 : fromV x (j : Int) p = d := by unfold fromV; rw [if_pos e1]; exact hd
        have HD := hid hd
        rw [e1, e2]
        clear e1 e2 hq hd
        go_enter Try.func54, Try.ntmps54
        go_wp2_with (first
          | ((first
              | ((with_reducible apply wpL_skip); rfl; skip)
              | ((with_reducible apply wpL_shlP (m := 1) (k := p.length) (r := q)); rfl; rfl; rfl; rfl; (exact (by omega)); (exact HQ1.out); (exact HW.out); rfl)
              | (go_at_call 73; (have hcall_ := hid (climb_any _ _ [] (fun _ => []) [] 77 #[] kB77 (.slice ao p.length cap) x p j (fun bs w1 h1 => h1.sl (HH.out.sl HP.out)) (by omega) (by omega) (Holds.init _) (fun k _ ex w1 h1 => (from1_any w1 _ _ _).mono fun e w2 hq => ⟨hq.1, h1.grow hq.2⟩))); (with_reducible refine hcall_.out.mono ?_); clear hcall_; rw [HD.out]; rintro e_ w2_ ⟨rfl, hb_⟩; (have hq_ := HH.out.grow hb_.below); clear HH; have HH := hid hq_; clear hq_ hb_)
              | ((with_reducible apply wpL_storeC (t := 34) (vs := d.cells)); rfl; rfl; (exact kS34); (exact HH.out); (exact .here); (exact Arr.len _); (exact cells_one _); (exact Arr.len _); rfl; (intro w_ hq_; clear HH; have HH := hid hq_; clear hq_))
              | ((with_reducible apply wpL_nilCheck); rfl; rfl)
              | ((with_reducible apply wpL_loadArr (t := 34) kA34 HH.out); rfl; (first | exact .here | exact .there .here | exact .there (.there .here) | exact .there (.there (.there .here)) | exact .there (.there (.there (.there .here))) | exact .there (.there (.there (.there (.there .here)))) | exact .there (.there (.there (.there (.there (.there .here))))) | exact .there (.there (.there (.there (.there (.there (.there .here))))))); rfl)
              | ((with_reducible apply wpL_loadC (t := 34) kA34 HH.out); rfl; (first | exact .here | exact .there .here | exact .there (.there .here) | exact .there (.there (.there .here)) | exact .there (.there (.there (.there .here))) | exact .there (.there (.there (.there (.there .here)))) | exact .there (.there (.there (.there (.there (.there .here))))) | exact .there (.there (.there (.there (.there (.there (.there .here))))))); (first | rfl | exact Arr.len _ | (simp; done)); rfl)
              | ((with_reducible apply wpL_len (t := 46) Try.underlying46); rfl; rfl)
              | ((with_reducible apply wpL_boxArr (dst := some 3)); rfl; (exact HH.out); rfl; (intro g3_ w_ hq_; (try simp only [List.set_cons_zero, List.set_cons_succ] at hq_); clear HH; have HH := hid hq_; clear hq_))
              | ((with_reducible apply wpL_allocC (dst := some 6) kZ34 HH.out); rfl; (intro g6_ w_ hq_; (try simp only [List.set_cons_zero, List.set_cons_succ] at hq_); clear HH; have HH := hid hq_; clear hq_))
              | ((with_reducible apply wpL_storeArr (t := 34) kS34 HH.out); rfl; rfl; (first | exact .here | exact .there .here | exact .there (.there .here) | exact .there (.there (.there .here)) | exact .there (.there (.there (.there .here))) | exact .there (.there (.there (.there (.there .here)))) | exact .there (.there (.there (.there (.there (.there .here))))) | exact .there (.there (.there (.there (.there (.there (.there .here))))))); (first | rfl | exact Arr.len _ | (simp; done)); rfl; (intro w_ hq_; (try simp only [List.set_cons_zero, List.set_cons_succ] at hq_); clear HH; have HH := hid hq_; clear hq_))
              | ((with_reducible apply wpL_storeC (t := 34)); rfl; rfl; (exact kS34); (exact HH.out); (first | exact .here | exact .there .here | exact .there (.there .here) | exact .there (.there (.there .here)) | exact .there (.there (.there (.there .here))) | exact .there (.there (.there (.there (.there .here)))) | exact .there (.there (.there (.there (.there (.there .here))))) | exact .there (.there (.there (.there (.there (.there (.there .here))))))); (first | rfl | exact Arr.len _ | (simp; done)); (first | rfl | (intro u_ hu_; simp only [List.mem_cons, List.not_mem_nil, or_false] at hu_; rcases hu_ with rfl | hu_; rfl) | exact byt_cell1 _ | exact cells_one _ | exact wrd_one _ | exact flat_cell1 _); (first | rfl | exact Arr.len _ | (simp; done)); rfl; (intro w_ hq_; (try simp only [List.set_cons_zero, List.set_cons_succ] at hq_); clear HH; have HH := hid hq_; clear hq_))
              | ((with_reducible apply wpL_move); rfl; rfl)
              | ((with_reducible apply wpL_assign); rfl; rfl)
              | ((with_reducible apply wpL_pick); rfl; rfl; rfl)
              | ((with_reducible apply wpL_not); rfl; rfl)
              | ((with_reducible apply wpL_cmp (b := true)); rfl; rfl; rfl; (first | rfl | assumption | (simp only [cmpB, decide_eq_true_eq, decide_eq_false_iff_not, beq_iff_eq, bne_iff_ne, ne_eq, beq_eq_false_iff_ne, bne_eq_false_iff_eq, gt_iff_lt, ge_iff_le]; omega) | (simp; omega)); rfl)
              | ((with_reducible apply wpL_cmp (b := false)); rfl; rfl; rfl; (first | rfl | assumption | (simp only [cmpB, decide_eq_true_eq, decide_eq_false_iff_not, beq_iff_eq, bne_iff_ne, ne_eq, beq_eq_false_iff_ne, bne_eq_false_iff_eq, gt_iff_lt, ge_iff_le]; omega) | (simp; omega)); rfl)
              | ((with_reducible apply wpL_cmp); rfl; rfl; rfl; rfl; rfl)
              | ((with_reducible apply wpL_arith); rfl; rfl; rfl; (exact IntWalk.i64_in _ (by (try simp only [arithI]); omega)); rfl)); (try simp only [arithI, Act.put, Act.eval, List.setIfInBounds_toArray, List.set_cons_succ, List.set_cons_zero, Array.getD_eq_getD_getElem?, List.getElem?_toArray, List.getElem?_cons_succ, List.getElem?_cons_zero, Option.getD_some])))
        refine bodyPost_ret (res2 rfl (resC kA34 HH.out (by rfl) .here (Arr.len _)) (by rfl)) rfl ?_
        exact RetR.mk rfl rfl HH.out.dropBlk.dropBlk.below
/-- What Verify answers. -/
def verB (r x : Nd) (i : Int) (p : List Nd) : Bool := fromC i p.length == 0 && fromV x i p == r
set_option maxRecDepth 100000 in
set_option maxHeartbeats 4000000 in
theorem verify_any (w : World) (v : Value) (r x : Nd) (i : Int) (p : List Nd) (hp : Arrs w v p) (hn : p.length ≤ 1000000000) : Calls Try.prog 53 #[r.val, x.val, .int .i64 i, v] w (RetB w (verB r x i p)) := by
  obtain ⟨ao, cap, rfl, _⟩ := hp.shape
  have HP := hid hp
  clear hp
  have HH := hid (Holds.init w)
  obtain ⟨c, hc⟩ : ∃ c, fromC i p.length = c := ⟨_, rfl⟩
  obtain ⟨d, hd⟩ : ∃ d, fromV x i p = d := ⟨_, rfl⟩
  have HC := hid hc
  have HD := hid hd
  obtain ⟨b, hb⟩ : ∃ b, verB r x i p = b := ⟨_, rfl⟩
  have hvb := hb
  unfold verB at hvb
  rw [hc, hd] at hvb
  have HB := hid hvb
  rw [hb]
  clear hb hvb hc hd
  by_cases h0 : c = 0
  · subst h0
    have HE := hid (show (d == r) = b by rw [← HB.out]; simp)
    go_enter Try.func53, Try.ntmps53
    go_wp2_with (first
      | ((first
          | ((with_reducible apply wpL_skip); rfl; skip)
          | (go_at_call 54; (have hcall_ := hid (from_any _ (.slice ao p.length cap) x i p (HH.out.sl HP.out) hn)); (with_reducible refine hcall_.out.mono ?_); clear hcall_; rw [HC.out, HD.out]; rintro e_ w2_ ⟨rfl, hb_⟩; (have hq_ := HH.out.grow hb_); clear HH; have HH := hid hq_; clear hq_ hb_)
          | ((with_reducible apply wpL_eqlA (b := b) (p := d) (q := r) kR34); rfl; rfl; (exact HE.out); rfl)
          | ((with_reducible apply wpL_nilCheck); rfl; rfl)
          | ((with_reducible apply wpL_loadArr (t := 34) kA34 HH.out); rfl; (first | exact .here | exact .there .here | exact .there (.there .here) | exact .there (.there (.there .here)) | exact .there (.there (.there (.there .here))) | exact .there (.there (.there (.there (.there .here)))) | exact .there (.there (.there (.there (.there (.there .here))))) | exact .there (.there (.there (.there (.there (.there (.there .here))))))); rfl)
          | ((with_reducible apply wpL_loadC (t := 34) kA34 HH.out); rfl; (first | exact .here | exact .there .here | exact .there (.there .here) | exact .there (.there (.there .here)) | exact .there (.there (.there (.there .here))) | exact .there (.there (.there (.there (.there .here)))) | exact .there (.there (.there (.there (.there (.there .here))))) | exact .there (.there (.there (.there (.there (.there (.there .here))))))); (first | rfl | exact Arr.len _ | (simp; done)); rfl)
          | ((with_reducible apply wpL_boxArr (dst := some 4)); rfl; (exact HH.out); rfl; (intro g4_ w_ hq_; (try simp only [List.set_cons_zero, List.set_cons_succ] at hq_); clear HH; have HH := hid hq_; clear hq_))
          | ((with_reducible apply wpL_boxArr (dst := some 5)); rfl; (exact HH.out); rfl; (intro g5_ w_ hq_; (try simp only [List.set_cons_zero, List.set_cons_succ] at hq_); clear HH; have HH := hid hq_; clear hq_))
          | ((with_reducible apply wpL_allocC (dst := some 9) kZ34 HH.out); rfl; (intro g9_ w_ hq_; (try simp only [List.set_cons_zero, List.set_cons_succ] at hq_); clear HH; have HH := hid hq_; clear hq_))
          | ((with_reducible apply wpL_storeArr (t := 34) kS34 HH.out); rfl; rfl; (first | exact .here | exact .there .here | exact .there (.there .here) | exact .there (.there (.there .here)) | exact .there (.there (.there (.there .here))) | exact .there (.there (.there (.there (.there .here)))) | exact .there (.there (.there (.there (.there (.there .here))))) | exact .there (.there (.there (.there (.there (.there (.there .here))))))); (first | rfl | exact Arr.len _ | (simp; done)); rfl; (intro w_ hq_; (try simp only [List.set_cons_zero, List.set_cons_succ] at hq_); clear HH; have HH := hid hq_; clear hq_))
          | ((with_reducible apply wpL_storeC (t := 34)); rfl; rfl; (exact kS34); (exact HH.out); (first | exact .here | exact .there .here | exact .there (.there .here) | exact .there (.there (.there .here)) | exact .there (.there (.there (.there .here))) | exact .there (.there (.there (.there (.there .here)))) | exact .there (.there (.there (.there (.there (.there .here))))) | exact .there (.there (.there (.there (.there (.there (.there .here))))))); (first | rfl | exact Arr.len _ | (simp; done)); (first | rfl | (intro u_ hu_; simp only [List.mem_cons, List.not_mem_nil, or_false] at hu_; rcases hu_ with rfl | hu_; rfl) | exact byt_cell1 _ | exact cells_one _ | exact wrd_one _ | exact flat_cell1 _); (first | rfl | exact Arr.len _ | (simp; done)); rfl; (intro w_ hq_; (try simp only [List.set_cons_zero, List.set_cons_succ] at hq_); clear HH; have HH := hid hq_; clear hq_))
          | ((with_reducible apply wpL_move); rfl; rfl)
          | ((with_reducible apply wpL_assign); rfl; rfl)
          | ((with_reducible apply wpL_pick); rfl; rfl; rfl)
          | ((with_reducible apply wpL_not); rfl; rfl)
          | ((with_reducible apply wpL_cmp (b := true)); rfl; rfl; rfl; (first | rfl | assumption | (simp only [cmpB, decide_eq_true_eq, decide_eq_false_iff_not, beq_iff_eq, bne_iff_ne, ne_eq, beq_eq_false_iff_ne, bne_eq_false_iff_eq, gt_iff_lt, ge_iff_le]; omega) | (simp; omega)); rfl)
          | ((with_reducible apply wpL_cmp (b := false)); rfl; rfl; rfl; (first | rfl | assumption | (simp only [cmpB, decide_eq_true_eq, decide_eq_false_iff_not, beq_iff_eq, bne_iff_ne, ne_eq, beq_eq_false_iff_ne, bne_eq_false_iff_eq, gt_iff_lt, ge_iff_le]; omega) | (simp; omega)); rfl)
          | ((with_reducible apply wpL_cmp); rfl; rfl; rfl; rfl; rfl)
          | ((with_reducible apply wpL_arith); rfl; rfl; rfl; (exact IntWalk.i64_in _ (by (try simp only [arithI]); omega)); rfl)); (try simp only [arithI, Act.put, Act.eval, List.setIfInBounds_toArray, List.set_cons_succ, List.set_cons_zero, Array.getD_eq_getD_getElem?, List.getElem?_toArray, List.getElem?_cons_succ, List.getElem?_cons_zero, Option.getD_some])))
    go_ret
    exact RetB.mk rfl HH.out.dropBlk.dropBlk.dropBlk.below
  · have hcb : (c == 0) = false := by simpa using h0
    have HE := hid (show false = b by rw [← HB.out, hcb]; rfl)
    go_enter Try.func53, Try.ntmps53
    go_wp2_with (first
      | ((first
          | ((with_reducible apply wpL_skip); rfl; skip)
          | (go_at_call 54; (have hcall_ := hid (from_any _ (.slice ao p.length cap) x i p (HH.out.sl HP.out) hn)); (with_reducible refine hcall_.out.mono ?_); clear hcall_; rw [HC.out, HD.out]; rintro e_ w2_ ⟨rfl, hb_⟩; (have hq_ := HH.out.grow hb_); clear HH; have HH := hid hq_; clear hq_ hb_)
          | ((with_reducible apply wpL_nilCheck); rfl; rfl)
          | ((with_reducible apply wpL_loadArr (t := 34) kA34 HH.out); rfl; (first | exact .here | exact .there .here | exact .there (.there .here) | exact .there (.there (.there .here)) | exact .there (.there (.there (.there .here))) | exact .there (.there (.there (.there (.there .here)))) | exact .there (.there (.there (.there (.there (.there .here))))) | exact .there (.there (.there (.there (.there (.there (.there .here))))))); rfl)
          | ((with_reducible apply wpL_loadC (t := 34) kA34 HH.out); rfl; (first | exact .here | exact .there .here | exact .there (.there .here) | exact .there (.there (.there .here)) | exact .there (.there (.there (.there .here))) | exact .there (.there (.there (.there (.there .here)))) | exact .there (.there (.there (.there (.there (.there .here))))) | exact .there (.there (.there (.there (.there (.there (.there .here))))))); (first | rfl | exact Arr.len _ | (simp; done)); rfl)
          | ((with_reducible apply wpL_boxArr (dst := some 4)); rfl; (exact HH.out); rfl; (intro g4_ w_ hq_; (try simp only [List.set_cons_zero, List.set_cons_succ] at hq_); clear HH; have HH := hid hq_; clear hq_))
          | ((with_reducible apply wpL_boxArr (dst := some 5)); rfl; (exact HH.out); rfl; (intro g5_ w_ hq_; (try simp only [List.set_cons_zero, List.set_cons_succ] at hq_); clear HH; have HH := hid hq_; clear hq_))
          | ((with_reducible apply wpL_allocC (dst := some 9) kZ34 HH.out); rfl; (intro g9_ w_ hq_; (try simp only [List.set_cons_zero, List.set_cons_succ] at hq_); clear HH; have HH := hid hq_; clear hq_))
          | ((with_reducible apply wpL_storeArr (t := 34) kS34 HH.out); rfl; rfl; (first | exact .here | exact .there .here | exact .there (.there .here) | exact .there (.there (.there .here)) | exact .there (.there (.there (.there .here))) | exact .there (.there (.there (.there (.there .here)))) | exact .there (.there (.there (.there (.there (.there .here))))) | exact .there (.there (.there (.there (.there (.there (.there .here))))))); (first | rfl | exact Arr.len _ | (simp; done)); rfl; (intro w_ hq_; (try simp only [List.set_cons_zero, List.set_cons_succ] at hq_); clear HH; have HH := hid hq_; clear hq_))
          | ((with_reducible apply wpL_storeC (t := 34)); rfl; rfl; (exact kS34); (exact HH.out); (first | exact .here | exact .there .here | exact .there (.there .here) | exact .there (.there (.there .here)) | exact .there (.there (.there (.there .here))) | exact .there (.there (.there (.there (.there .here)))) | exact .there (.there (.there (.there (.there (.there .here))))) | exact .there (.there (.there (.there (.there (.there (.there .here))))))); (first | rfl | exact Arr.len _ | (simp; done)); (first | rfl | (intro u_ hu_; simp only [List.mem_cons, List.not_mem_nil, or_false] at hu_; rcases hu_ with rfl | hu_; rfl) | exact byt_cell1 _ | exact cells_one _ | exact wrd_one _ | exact flat_cell1 _); (first | rfl | exact Arr.len _ | (simp; done)); rfl; (intro w_ hq_; (try simp only [List.set_cons_zero, List.set_cons_succ] at hq_); clear HH; have HH := hid hq_; clear hq_))
          | ((with_reducible apply wpL_move); rfl; rfl)
          | ((with_reducible apply wpL_assign); rfl; rfl)
          | ((with_reducible apply wpL_pick); rfl; rfl; rfl)
          | ((with_reducible apply wpL_not); rfl; rfl)
          | ((with_reducible apply wpL_cmp (b := true)); rfl; rfl; rfl; (first | rfl | assumption | (simp only [cmpB, decide_eq_true_eq, decide_eq_false_iff_not, beq_iff_eq, bne_iff_ne, ne_eq, beq_eq_false_iff_ne, bne_eq_false_iff_eq, gt_iff_lt, ge_iff_le]; omega) | (simp; omega)); rfl)
          | ((with_reducible apply wpL_cmp (b := false)); rfl; rfl; rfl; (first | rfl | assumption | (simp only [cmpB, decide_eq_true_eq, decide_eq_false_iff_not, beq_iff_eq, bne_iff_ne, ne_eq, beq_eq_false_iff_ne, bne_eq_false_iff_eq, gt_iff_lt, ge_iff_le]; omega) | (simp; omega)); rfl)
          | ((with_reducible apply wpL_cmp); rfl; rfl; rfl; rfl; rfl)
          | ((with_reducible apply wpL_arith); rfl; rfl; rfl; (exact IntWalk.i64_in _ (by (try simp only [arithI]); omega)); rfl)); (try simp only [arithI, Act.put, Act.eval, List.setIfInBounds_toArray, List.set_cons_succ, List.set_cons_zero, Array.getD_eq_getD_getElem?, List.getElem?_toArray, List.getElem?_cons_succ, List.getElem?_cons_zero, Option.getD_some])))
    go_ret
    exact RetB.mk HE.out HH.out.dropBlk.dropBlk.dropBlk.below
end Go.Proofs.Ytgkfopodhikckaa
/- The example of the merkle laws. No condition. -/
namespace Go.Proofs.Ytgkfopodhikckaa
open Go.RowKit
attribute [local irreducible] wpQuiet wpList
set_option maxRecDepth 100000 in
theorem leaf_ne : ((sumB (leafPre 0 ++ [97])).1.take 16 == (sumB (leafPre 1 ++ [98])).1.take 16) = false := by rw [sumB_P, sumB_P]; kernel_rfl
theorem leaf_ne' : (!(leafN 0 [97] == leafN 1 [98])) = true := by
  rw [Bool.not_eq_true', beq_eq_false_iff_ne]
  intro e
  have h := leaf_ne
  have e2 : (leafN 0 [97]).1 = (leafN 1 [98]).1 := by rw [e]
  have e3 : (sumB (leafPre 0 ++ [97])).1.take 16 = (sumB (leafPre 1 ++ [98])).1.take 16 := e2
  rw [e3] at h
  simp at h
theorem check_two : checkC 2 = 0 := by decide +kernel
theorem log_two : Nat.log2 2 = 1 := by decide +kernel
theorem root_two (a b : Nd) : rootV [a, b] = joinN 1 a b := by
  unfold rootV rootN
  rw [show [a, b].length = 2 from rfl, if_pos check_two, log_two]
  rfl
theorem ver_two (a b : Nd) : verB (joinN 1 a b) b 1 [a] = true := by
  have e1 : fromC 1 [a].length = 0 := (by decide : fromC 1 1 = 0)
  have e2 : fromV b 1 [a] = joinN 1 a b := by unfold fromV; rw [if_pos e1]; rfl
  unfold verB
  rw [e1, e2]
  simp
set_option maxRecDepth 100000 in
set_option maxHeartbeats 4000000 in
theorem knownM_any (w : World) : Calls Try.prog 23 #[] w (RetB w true) := by
  have HH := hid (Holds.init w)
  obtain ⟨a, ha⟩ : ∃ a, leafN 0 [97] = a := ⟨_, rfl⟩
  obtain ⟨b, hb⟩ : ∃ b, leafN 1 [98] = b := ⟨_, rfl⟩
  have HNE := hid leaf_ne'
  rw [ha, hb] at HNE
  obtain ⟨r, hr⟩ : ∃ r, joinN 1 a b = r := ⟨_, rfl⟩
  have HR := hid (root_two a b)
  have HV := hid (ver_two a b)
  rw [hr] at HR HV
  have HJ := hid hr
  have HA := hid ha
  have HB := hid hb
  have HCK := hid (show checkC [a, b].length = 0 from check_two)
  clear ha hb hr
  go_enter Try.func23, Try.ntmps23
  go_wp2_with (first
    | ((first
        | ((with_reducible apply wpL_skip); rfl; skip)
        | ((with_reducible apply wpL_buildB [97] (dst := some 5)); rfl; rfl; (exact (by omega)); (exact HH.out); rfl; (intro g_ w_ hq_; clear HH; have HH := hid hq_; clear hq_))
        | ((with_reducible apply wpL_buildB [98] (dst := some 8)); rfl; rfl; (exact (by omega)); (exact HH.out); rfl; (intro g_ w_ hq_; clear HH; have HH := hid hq_; clear hq_))
        | ((with_reducible apply wpL_convConst (dst := some 6) (l := [97]) Try.underlying22 Try.underlying5 HH.out); rfl; rfl; rfl; (intro w_ hq_ hb_; clear HH; have HH := hid hq_; have HB6 := hid hb_; clear hq_ hb_))
        | ((with_reducible apply wpL_convConst (dst := some 9) (l := [98]) Try.underlying22 Try.underlying5 HH.out); rfl; rfl; rfl; (intro w_ hq_ hb_; clear HH; have HH := hid hq_; have HB9 := hid hb_; clear hq_ hb_))
        | (go_at_call 45; (have hcall_ := hid (leaf_any _ 0 _ [97] HB6.out (by simp))); (with_reducible refine hcall_.out.mono ?_); clear hcall_; rw [HA.out]; rintro e_ w2_ ⟨rfl, hb_⟩; (have hq_ := HH.out.grow hb_); clear HH; have HH := hid hq_; clear hq_ hb_)
        | (go_at_call 45; (have hcall_ := hid (leaf_any _ 1 _ [98] HB9.out (by simp))); (with_reducible refine hcall_.out.mono ?_); clear hcall_; rw [HB.out]; rintro e_ w2_ ⟨rfl, hb_⟩; (have hq_ := HH.out.grow hb_); clear HH; have HH := hid hq_; clear hq_ hb_)
        | ((with_reducible apply wpList_buildArr (dst := some 14) kE46 [a, b] HH.out); rfl; rfl; (exact (by decide)); rfl; (intro g_ w_ hq_; clear HH; have HH := hid hq_; clear hq_))
        | (go_at_call 38; (have hcall_ := hid (root_any _ _ [a, b] HH.out.sl0 (by simp))); (with_reducible refine hcall_.out.mono ?_); clear hcall_; rw [HR.out, HCK.out]; rintro e_ w2_ ⟨rfl, hb_⟩; (have hq_ := HH.out.grow hb_); clear HH; have HH := hid hq_; clear hq_ hb_)
        | ((with_reducible apply wpL_nilCheck); rfl; rfl)
        | ((with_reducible apply wpL_loadArr (t := 34) kA34 HH.out); rfl; (first | exact .here | exact .there .here | exact .there (.there .here) | exact .there (.there (.there .here)) | exact .there (.there (.there (.there .here))) | exact .there (.there (.there (.there (.there .here)))) | exact .there (.there (.there (.there (.there (.there .here))))) | exact .there (.there (.there (.there (.there (.there (.there .here))))))); rfl)
        | ((with_reducible apply wpL_loadC (t := 34) kA34 HH.out); rfl; (first | exact .here | exact .there .here | exact .there (.there .here) | exact .there (.there (.there .here)) | exact .there (.there (.there (.there .here))) | exact .there (.there (.there (.there (.there .here)))) | exact .there (.there (.there (.there (.there (.there .here))))) | exact .there (.there (.there (.there (.there (.there (.there .here))))))); (first | rfl | exact Arr.len _ | (simp; done)); rfl)
        | ((with_reducible apply wpL_allocC (dst := some 1) kZ34 HH.out); rfl; (intro g1_ w_ hq_; (try simp only [List.set_cons_zero, List.set_cons_succ] at hq_); clear HH; have HH := hid hq_; clear hq_))
        | ((with_reducible apply wpL_allocC (dst := some 2) kZ34 HH.out); rfl; (intro g2_ w_ hq_; (try simp only [List.set_cons_zero, List.set_cons_succ] at hq_); clear HH; have HH := hid hq_; clear hq_))
        | ((with_reducible apply wpL_allocC (dst := some 3) kZ34 HH.out); rfl; (intro g3_ w_ hq_; (try simp only [List.set_cons_zero, List.set_cons_succ] at hq_); clear HH; have HH := hid hq_; clear hq_))
        | ((with_reducible apply wpL_storeArr (t := 34) kS34 HH.out); rfl; rfl; (first | exact .here | exact .there .here | exact .there (.there .here) | exact .there (.there (.there .here)) | exact .there (.there (.there (.there .here))) | exact .there (.there (.there (.there (.there .here)))) | exact .there (.there (.there (.there (.there (.there .here))))) | exact .there (.there (.there (.there (.there (.there (.there .here))))))); (first | rfl | exact Arr.len _ | (simp; done)); rfl; (intro w_ hq_; (try simp only [List.set_cons_zero, List.set_cons_succ] at hq_); clear HH; have HH := hid hq_; clear hq_))
        | ((with_reducible apply wpL_storeC (t := 34)); rfl; rfl; (exact kS34); (exact HH.out); (first | exact .here | exact .there .here | exact .there (.there .here) | exact .there (.there (.there .here)) | exact .there (.there (.there (.there .here))) | exact .there (.there (.there (.there (.there .here)))) | exact .there (.there (.there (.there (.there (.there .here))))) | exact .there (.there (.there (.there (.there (.there (.there .here))))))); (first | rfl | exact Arr.len _ | (simp; done)); (first | rfl | (intro u_ hu_; simp only [List.mem_cons, List.not_mem_nil, or_false] at hu_; rcases hu_ with rfl | hu_; rfl) | exact byt_cell1 _ | exact cells_one _ | exact wrd_one _ | exact flat_cell1 _); (first | rfl | exact Arr.len _ | (simp; done)); rfl; (intro w_ hq_; (try simp only [List.set_cons_zero, List.set_cons_succ] at hq_); clear HH; have HH := hid hq_; clear hq_))
        | ((with_reducible apply wpL_move); rfl; rfl)
        | ((with_reducible apply wpL_assign); rfl; rfl)
        | ((with_reducible apply wpL_pick); rfl; rfl; rfl)
        | ((with_reducible apply wpL_not); rfl; rfl)
        | ((with_reducible apply wpL_cmp (b := true)); rfl; rfl; rfl; (first | rfl | assumption | (simp only [cmpB, decide_eq_true_eq, decide_eq_false_iff_not, beq_iff_eq, bne_iff_ne, ne_eq, beq_eq_false_iff_ne, bne_eq_false_iff_eq, gt_iff_lt, ge_iff_le]; omega) | (simp; omega)); rfl)
        | ((with_reducible apply wpL_cmp (b := false)); rfl; rfl; rfl; (first | rfl | assumption | (simp only [cmpB, decide_eq_true_eq, decide_eq_false_iff_not, beq_iff_eq, bne_iff_ne, ne_eq, beq_eq_false_iff_ne, bne_eq_false_iff_eq, gt_iff_lt, ge_iff_le]; omega) | (simp; omega)); rfl)
        | ((with_reducible apply wpL_cmp); rfl; rfl; rfl; rfl; rfl)
        | ((with_reducible apply wpL_arith); rfl; rfl; rfl; (exact IntWalk.i64_in _ (by (try simp only [arithI]); omega)); rfl)); (try simp only [arithI, Act.put, Act.eval, List.setIfInBounds_toArray, List.set_cons_succ, List.set_cons_zero, Array.getD_eq_getD_getElem?, List.getElem?_toArray, List.getElem?_cons_succ, List.getElem?_cons_zero, Option.getD_some])))
  refine wp_region_tailR 19 [Asr.is (.int .i64 0), Asr.is (.bool true), Asr.is (.bool true), Asr.is a.val, Asr.is b.val, Asr.is (.bool true), Asr.is (.bool true), Asr.is (.bool true), Asr.is r.val, Asr.is a.val, Asr.is b.val, Asr.is r.val, Asr.is (.bool true), Asr.is (.bool true), Asr.is (.bool true), Asr.is r.val, Asr.is b.val, Asr.is a.val, Asr.full w_.heap.size 34 16 1 (flat [a])] HH.out (by kernel_rfl) (by kernel_rfl) (by kernel_rfl) rfl ?_ ?_
  all_goals simp only [List.take_succ_cons, List.take_zero, List.drop_succ_cons, List.drop_zero]
  · refine eachD_cons ?_ (eachD_cons ?_ (eachD_cons ?_ (eachD_cons ?_ (eachD_cons ?_ (eachD_cons ?_ (eachD_cons ?_ (eachD_cons ?_ (eachD_cons ?_ (eachD_cons ?_ (eachD_cons ?_ (eachD_cons ?_ (eachD_cons ?_ (eachD_cons ?_ (eachD_cons ?_ (eachD_cons ?_ (eachD_cons ?_ (eachD_cons ?_ (eachD_cons ?_ (eachD_nil)))))))))))))))))))
    · intro a_ w1 hI hF hS
      have e4 : a_.eval (.tmp 4) = (.int .i64 0) := (hF.2.2 4 (notDst_of (by kernel_rfl))).trans rfl
      refine wantD (by rfl) ?_
      exact op_val rfl (ex_move rfl w1) e4
    · intro a_ w1 hI hF hS
      have e18 : a_.eval (.tmp 18) = (.int .i64 0) := hS ⟨0, .data⟩ (by simp) rfl _ rfl
      refine wantD (by rfl) ?_
      exact op_val rfl (ex_cmp (b := true) rfl e18 (by rfl) (by rfl) w1) rfl
    · intro a_ w1 hI hF hS
      have e19 : a_.eval (.tmp 19) = (.bool true) := hS ⟨1, .data⟩ (by simp) rfl _ rfl
      refine wantD (by rfl) ?_
      exact op_val rfl (ex_move rfl w1) e19
    · intro a_ w1 hI hF hS
      have e1 : a_.eval (.tmp 1) = (.pointer (some ⟨g1_, 0, none⟩)) := (hF.2.2 1 (notDst_of (by kernel_rfl))).trans rfl
      have e20 : a_.eval (.tmp 20) = (.bool true) := hS ⟨2, .guard⟩ (by simp) rfl _ rfl
      refine wantD (wanted_of (j := 2) (b := true) (want := true) (by rfl) (by rfl) e20 rfl) ?_
      exact op_val rfl (ex_loadA kA34 hI.1 e1 (by first | exact .here | exact .there .here | exact .there (.there .here))) rfl
    · intro a_ w1 hI hF hS
      have e2 : a_.eval (.tmp 2) = (.pointer (some ⟨g2_, 0, none⟩)) := (hF.2.2 2 (notDst_of (by kernel_rfl))).trans rfl
      have e20 : a_.eval (.tmp 20) = (.bool true) := hS ⟨2, .guard⟩ (by simp) rfl _ rfl
      refine wantD (wanted_of (j := 2) (b := true) (want := true) (by rfl) (by rfl) e20 rfl) ?_
      exact op_val rfl (ex_loadA kA34 hI.1 e2 (by first | exact .here | exact .there .here | exact .there (.there .here))) rfl
    · intro a_ w1 hI hF hS
      have e21 : a_.eval (.tmp 21) = a.val := hS ⟨3, .data⟩ (by simp) rfl _ rfl
      have e22 : a_.eval (.tmp 22) = b.val := hS ⟨4, .data⟩ (by simp) rfl _ rfl
      have e20 : a_.eval (.tmp 20) = (.bool true) := hS ⟨2, .guard⟩ (by simp) rfl _ rfl
      refine wantD (wanted_of (j := 2) (b := true) (want := true) (by rfl) (by rfl) e20 rfl) ?_
      exact op_val rfl (ex_neq_arr Try.underlying34 Try.underlying5 (by kernel_rfl) (by kernel_rfl) e21 e22 w1) (congrArg Value.bool HNE.out)
    · intro a_ w1 hI hF hS
      have e20 : a_.eval (.tmp 20) = (.bool true) := hS ⟨2, .data⟩ (by simp) rfl _ rfl
      have e23 : a_.eval (.tmp 23) = (.bool true) := hS ⟨5, .data⟩ (by simp) rfl _ rfl
      refine wantD (by rfl) ?_
      exact op_val rfl (ex_pick e20 rfl w1) e23
    · intro a_ w1 hI hF hS
      have e24 : a_.eval (.tmp 24) = (.bool true) := hS ⟨6, .data⟩ (by simp) rfl _ rfl
      refine wantD (by rfl) ?_
      exact op_val rfl (ex_move rfl w1) e24
    · intro a_ w1 hI hF hS
      have e3 : a_.eval (.tmp 3) = (.pointer (some ⟨g3_, 0, none⟩)) := (hF.2.2 3 (notDst_of (by kernel_rfl))).trans rfl
      have e25 : a_.eval (.tmp 25) = (.bool true) := hS ⟨7, .guard⟩ (by simp) rfl _ rfl
      refine wantD (wanted_of (j := 7) (b := true) (want := true) (by rfl) (by rfl) e25 rfl) ?_
      exact op_val rfl (ex_loadA kA34 hI.1 e3 (by first | exact .here | exact .there .here | exact .there (.there .here))) rfl
    · intro a_ w1 hI hF hS
      have e1 : a_.eval (.tmp 1) = (.pointer (some ⟨g1_, 0, none⟩)) := (hF.2.2 1 (notDst_of (by kernel_rfl))).trans rfl
      have e25 : a_.eval (.tmp 25) = (.bool true) := hS ⟨7, .guard⟩ (by simp) rfl _ rfl
      refine wantD (wanted_of (j := 7) (b := true) (want := true) (by rfl) (by rfl) e25 rfl) ?_
      exact op_val rfl (ex_loadA kA34 hI.1 e1 (by first | exact .here | exact .there .here | exact .there (.there .here))) rfl
    · intro a_ w1 hI hF hS
      have e2 : a_.eval (.tmp 2) = (.pointer (some ⟨g2_, 0, none⟩)) := (hF.2.2 2 (notDst_of (by kernel_rfl))).trans rfl
      have e25 : a_.eval (.tmp 25) = (.bool true) := hS ⟨7, .guard⟩ (by simp) rfl _ rfl
      refine wantD (wanted_of (j := 7) (b := true) (want := true) (by rfl) (by rfl) e25 rfl) ?_
      exact op_val rfl (ex_loadA kA34 hI.1 e2 (by first | exact .here | exact .there .here | exact .there (.there .here))) rfl
    · intro a_ w1 hI hF hS
      have e27 : a_.eval (.tmp 27) = a.val := hS ⟨9, .data⟩ (by simp) rfl _ rfl
      have e28 : a_.eval (.tmp 28) = b.val := hS ⟨10, .data⟩ (by simp) rfl _ rfl
      have e25 : a_.eval (.tmp 25) = (.bool true) := hS ⟨7, .chain⟩ (by simp) rfl _ rfl
      refine wantD (wanted_of (j := 7) (b := true) (want := true) (by rfl) (by rfl) e25 rfl) ?_
      exact op_call (args := #[.int .i64 1, a.val, b.val]) kB37 (by show #[_, a_.eval (.tmp 27), a_.eval (.tmp 28)] = _; rw [e27, e28]; rfl) ((join_any w1 1 a b).mono fun e w' ⟨he, hb⟩ => ⟨_, he, hb, by rw [HJ.out]; rfl⟩)
    · intro a_ w1 hI hF hS
      have e26 : a_.eval (.tmp 26) = r.val := hS ⟨8, .data⟩ (by simp) rfl _ rfl
      have e29 : a_.eval (.tmp 29) = r.val := hS ⟨11, .data⟩ (by simp) rfl _ rfl
      have e25 : a_.eval (.tmp 25) = (.bool true) := hS ⟨7, .guard⟩ (by simp) rfl _ rfl
      refine wantD (wanted_of (j := 7) (b := true) (want := true) (by rfl) (by rfl) e25 rfl) ?_
      exact op_val rfl (ex_eql_arr Try.underlying34 Try.underlying5 (by kernel_rfl) (by kernel_rfl) e26 e29 w1) (congrArg Value.bool (arrRefl _))
    · intro a_ w1 hI hF hS
      have e25 : a_.eval (.tmp 25) = (.bool true) := hS ⟨7, .data⟩ (by simp) rfl _ rfl
      have e30 : a_.eval (.tmp 30) = (.bool true) := hS ⟨12, .data⟩ (by simp) rfl _ rfl
      refine wantD (by rfl) ?_
      exact op_val rfl (ex_pick e25 rfl w1) e30
    · intro a_ w1 hI hF hS
      have e31 : a_.eval (.tmp 31) = (.bool true) := hS ⟨13, .data⟩ (by simp) rfl _ rfl
      refine wantD (by rfl) ?_
      exact op_val rfl (ex_move rfl w1) e31
    · intro a_ w1 hI hF hS
      have e3 : a_.eval (.tmp 3) = (.pointer (some ⟨g3_, 0, none⟩)) := (hF.2.2 3 (notDst_of (by kernel_rfl))).trans rfl
      have e32 : a_.eval (.tmp 32) = (.bool true) := hS ⟨14, .guard⟩ (by simp) rfl _ rfl
      refine wantD (wanted_of (j := 14) (b := true) (want := true) (by rfl) (by rfl) e32 rfl) ?_
      exact op_val rfl (ex_loadA kA34 hI.1 e3 (by first | exact .here | exact .there .here | exact .there (.there .here))) rfl
    · intro a_ w1 hI hF hS
      have e2 : a_.eval (.tmp 2) = (.pointer (some ⟨g2_, 0, none⟩)) := (hF.2.2 2 (notDst_of (by kernel_rfl))).trans rfl
      have e32 : a_.eval (.tmp 32) = (.bool true) := hS ⟨14, .guard⟩ (by simp) rfl _ rfl
      refine wantD (wanted_of (j := 14) (b := true) (want := true) (by rfl) (by rfl) e32 rfl) ?_
      exact op_val rfl (ex_loadA kA34 hI.1 e2 (by first | exact .here | exact .there .here | exact .there (.there .here))) rfl
    · intro a_ w1 hI hF hS
      have e1 : a_.eval (.tmp 1) = (.pointer (some ⟨g1_, 0, none⟩)) := (hF.2.2 1 (notDst_of (by kernel_rfl))).trans rfl
      have e32 : a_.eval (.tmp 32) = (.bool true) := hS ⟨14, .guard⟩ (by simp) rfl _ rfl
      refine wantD (wanted_of (j := 14) (b := true) (want := true) (by rfl) (by rfl) e32 rfl) ?_
      exact op_val rfl (ex_loadA kA34 hI.1 e1 (by first | exact .here | exact .there .here | exact .there (.there .here))) rfl
    · intro a_ w1 hI hF hS
      have e35 : a_.eval (.tmp 35) = a.val := hS ⟨17, .data⟩ (by simp) rfl _ rfl
      have e32 : a_.eval (.tmp 32) = (.bool true) := hS ⟨14, .guard⟩ (by simp) rfl _ rfl
      refine wantD (wanted_of (j := 14) (b := true) (want := true) (by rfl) (by rfl) e32 rfl) ?_
      obtain ⟨v_, w_, hr_, hb_, hA_⟩ := ex_buildArr (ρ := a_.eval) kE46 [a] (parts := #[(0, .tmp 35)]) (n := 1) rfl (by simp [e35]) (by decide) w1; exact op_new rfl hr_ hb_ (hA_ _ hI.2.size)
  intro wq hq_ hb_
  intro v0_ h0_ v1_ h1_ v2_ h2_ v3_ h3_ v4_ h4_ v5_ h5_ v6_ h6_ v7_ h7_ v8_ h8_ v9_ h9_ v10_ h10_ v11_ h11_ v12_ h12_ v13_ h13_ v14_ h14_ v15_ h15_ v16_ h16_ v17_ h17_ v18_ h18_
  have q_ : v0_ = (.int .i64 0) := h0_; clear h0_; subst q_
  have q_ : v1_ = (.bool true) := h1_; clear h1_; subst q_
  have q_ : v2_ = (.bool true) := h2_; clear h2_; subst q_
  have q_ : v3_ = a.val := h3_; clear h3_; subst q_
  have q_ : v4_ = b.val := h4_; clear h4_; subst q_
  have q_ : v5_ = (.bool true) := h5_; clear h5_; subst q_
  have q_ : v6_ = (.bool true) := h6_; clear h6_; subst q_
  have q_ : v7_ = (.bool true) := h7_; clear h7_; subst q_
  have q_ : v8_ = r.val := h8_; clear h8_; subst q_
  have q_ : v9_ = a.val := h9_; clear h9_; subst q_
  have q_ : v10_ = b.val := h10_; clear h10_; subst q_
  have q_ : v11_ = r.val := h11_; clear h11_; subst q_
  have q_ : v12_ = (.bool true) := h12_; clear h12_; subst q_
  have q_ : v13_ = (.bool true) := h13_; clear h13_; subst q_
  have q_ : v14_ = (.bool true) := h14_; clear h14_; subst q_
  have q_ : v15_ = r.val := h15_; clear h15_; subst q_
  have q_ : v16_ = b.val := h16_; clear h16_; subst q_
  have q_ : v17_ = a.val := h17_; clear h17_; subst q_
  have K18 := hid h18_; clear h18_
  simp only [endD, putsD, Act.put, List.setIfInBounds_toArray, List.set_cons_succ, List.set_cons_zero]
  have HQ := hid hq_; clear hq_
  have HB_ := hid hb_; clear hb_
  obtain ⟨aa, ca, rfl⟩ := row_shape K18.out.2
  have hq2_ := HH.out.addRow HB_.out K18.out.2
  clear HH HQ K18 HB_
  have HH := hid hq2_
  clear hq2_
  go_wp2_with (first
    | ((first
        | ((with_reducible apply wpL_skip); rfl; skip)
        | (go_at_call 53; (have hcall_ := hid (verify_any _ (.slice aa 1 ca) r b 1 [a] HH.out.sl0 (by simp))); (with_reducible refine hcall_.out.mono ?_); clear hcall_; rw [HV.out]; rintro e_ w2_ ⟨rfl, hb_⟩; (have hq_ := HH.out.grow hb_); clear HH; have HH := hid hq_; clear hq_ hb_)
        | ((with_reducible apply wpL_nilCheck); rfl; rfl)
        | ((with_reducible apply wpL_loadArr (t := 34) kA34 HH.out); rfl; (first | exact .here | exact .there .here | exact .there (.there .here) | exact .there (.there (.there .here)) | exact .there (.there (.there (.there .here))) | exact .there (.there (.there (.there (.there .here)))) | exact .there (.there (.there (.there (.there (.there .here))))) | exact .there (.there (.there (.there (.there (.there (.there .here))))))); rfl)
        | ((with_reducible apply wpL_loadC (t := 34) kA34 HH.out); rfl; (first | exact .here | exact .there .here | exact .there (.there .here) | exact .there (.there (.there .here)) | exact .there (.there (.there (.there .here))) | exact .there (.there (.there (.there (.there .here)))) | exact .there (.there (.there (.there (.there (.there .here))))) | exact .there (.there (.there (.there (.there (.there (.there .here))))))); (first | rfl | exact Arr.len _ | (simp; done)); rfl)
        | ((with_reducible apply wpL_allocC (dst := some 1) kZ34 HH.out); rfl; (intro g1_ w_ hq_; (try simp only [List.set_cons_zero, List.set_cons_succ] at hq_); clear HH; have HH := hid hq_; clear hq_))
        | ((with_reducible apply wpL_allocC (dst := some 2) kZ34 HH.out); rfl; (intro g2_ w_ hq_; (try simp only [List.set_cons_zero, List.set_cons_succ] at hq_); clear HH; have HH := hid hq_; clear hq_))
        | ((with_reducible apply wpL_allocC (dst := some 3) kZ34 HH.out); rfl; (intro g3_ w_ hq_; (try simp only [List.set_cons_zero, List.set_cons_succ] at hq_); clear HH; have HH := hid hq_; clear hq_))
        | ((with_reducible apply wpL_storeArr (t := 34) kS34 HH.out); rfl; rfl; (first | exact .here | exact .there .here | exact .there (.there .here) | exact .there (.there (.there .here)) | exact .there (.there (.there (.there .here))) | exact .there (.there (.there (.there (.there .here)))) | exact .there (.there (.there (.there (.there (.there .here))))) | exact .there (.there (.there (.there (.there (.there (.there .here))))))); (first | rfl | exact Arr.len _ | (simp; done)); rfl; (intro w_ hq_; (try simp only [List.set_cons_zero, List.set_cons_succ] at hq_); clear HH; have HH := hid hq_; clear hq_))
        | ((with_reducible apply wpL_storeC (t := 34)); rfl; rfl; (exact kS34); (exact HH.out); (first | exact .here | exact .there .here | exact .there (.there .here) | exact .there (.there (.there .here)) | exact .there (.there (.there (.there .here))) | exact .there (.there (.there (.there (.there .here)))) | exact .there (.there (.there (.there (.there (.there .here))))) | exact .there (.there (.there (.there (.there (.there (.there .here))))))); (first | rfl | exact Arr.len _ | (simp; done)); (first | rfl | (intro u_ hu_; simp only [List.mem_cons, List.not_mem_nil, or_false] at hu_; rcases hu_ with rfl | hu_; rfl) | exact byt_cell1 _ | exact cells_one _ | exact wrd_one _ | exact flat_cell1 _); (first | rfl | exact Arr.len _ | (simp; done)); rfl; (intro w_ hq_; (try simp only [List.set_cons_zero, List.set_cons_succ] at hq_); clear HH; have HH := hid hq_; clear hq_))
        | ((with_reducible apply wpL_move); rfl; rfl)
        | ((with_reducible apply wpL_assign); rfl; rfl)
        | ((with_reducible apply wpL_pick); rfl; rfl; rfl)
        | ((with_reducible apply wpL_not); rfl; rfl)
        | ((with_reducible apply wpL_cmp (b := true)); rfl; rfl; rfl; (first | rfl | assumption | (simp only [cmpB, decide_eq_true_eq, decide_eq_false_iff_not, beq_iff_eq, bne_iff_ne, ne_eq, beq_eq_false_iff_ne, bne_eq_false_iff_eq, gt_iff_lt, ge_iff_le]; omega) | (simp; omega)); rfl)
        | ((with_reducible apply wpL_cmp (b := false)); rfl; rfl; rfl; (first | rfl | assumption | (simp only [cmpB, decide_eq_true_eq, decide_eq_false_iff_not, beq_iff_eq, bne_iff_ne, ne_eq, beq_eq_false_iff_ne, bne_eq_false_iff_eq, gt_iff_lt, ge_iff_le]; omega) | (simp; omega)); rfl)
        | ((with_reducible apply wpL_cmp); rfl; rfl; rfl; rfl; rfl)
        | ((with_reducible apply wpL_arith); rfl; rfl; rfl; (exact IntWalk.i64_in _ (by (try simp only [arithI]); omega)); rfl)); (try simp only [arithI, Act.put, Act.eval, List.setIfInBounds_toArray, List.set_cons_succ, List.set_cons_zero, Array.getD_eq_getD_getElem?, List.getElem?_toArray, List.getElem?_cons_succ, List.getElem?_cons_zero, Option.getD_some])))
  go_ret
  exact RetB.mk rfl HH.out.dropRow.dropBlk.dropBlk.dropBlk.below
end Go.Proofs.Ytgkfopodhikckaa
/- Elements of an array that lies in a variable; the law MerkleNodes. Condition: at most 300 bytes. -/
namespace Go.Proofs.Ytgkfopodhikckaa
open Go.RowKit
attribute [local irreducible] wpQuiet wpList
section
variable {P : Program} {w0 w : World} {S : List Nat} {bs bs' : List (Nat × Obj)} {rows : List Row} {ops : Array Oper} {rest : List Oper} {a : Act} {Q : Exit → Act → World → Prop} {C : World → Prop} {K : Act → Prop} {ρ : Operand → Value} {dst : Option Tmp} {ty : TypeId} {pos : String} {after : Array Edge} {guard : Option (Nat × Bool)}
theorem ex_indexE {t e : TypeId} {n sz : Nat} {x i : Operand} {g j m : Nat} {q : Int} {k : IntKind} (ht : P.underlying t = some (.array n e)) (he : (P.info? e).map (·.size) = some sz) (h0 : 0 < sz) (hx : ρ x = .pointer (some ⟨g, j, none⟩))
    (hi : ρ i = .int k q) (hq : q = (m : Int)) (hm : m < n) (w : World) :
    (execOp ρ { dst := dst, op := .indexAddr t x i, type := ty, pos := pos, after := after, guard := guard }).run P w = .ok (.value (.pointer (some ⟨g, j + m * sz, none⟩))) w := by
  subst hq
  have hadd : (⟨g, j, none⟩ : Addr).add (m * sz) = ⟨g, j + m * sz, none⟩ := by unfold Addr.add; split <;> simp_all
  have hc : (0 : Int) ≤ (m : Int) ∧ (m : Int) < n := by omega
  simp only [execOp, hx, hi, Instr.indexAt, asIntOf, Sem.run_bind, Sem.run_pure, Result.andThen_ok, run_underlying ht, Instr.sureAddr, run_sizeOf he, hc, and_self, if_true, Int.toNat_natCast, hadd]
theorem wpQ_indexE {t e : TypeId} {n sz : Nat} {x i : Operand} {g j m : Nat} {q : Int} {k : IntKind} (ht : P.underlying t = some (.array n e)) (he : (P.info? e).map (·.size) = some sz) (h0 : 0 < sz) (hx : a.eval x = .pointer (some ⟨g, j, none⟩)) (hi : a.eval i = .int k q) (hq : q = (m : Int)) (hm : m < n)
    (hg : Region.wanted { dst := dst, op := .indexAddr t x i, type := ty, pos := pos, after := after, guard := guard } (yielded ops a.tmps) = true)
    (h : wpQuiet P ops C K rest (a.put dst (.pointer (some ⟨g, j + m * sz, none⟩)))) : wpQuiet P ops C K ({ dst := dst, op := .indexAddr t x i, type := ty, pos := pos, after := after, guard := guard } :: rest) a :=
  wpQuiet_ex hg (fun w _ => ex_indexE (ρ := a.eval) ht he h0 hx hi hq hm w) h
theorem wpL_indexE {t e : TypeId} {n sz : Nat} {x i : Operand} {g j m : Nat} {q : Int} {k : IntKind} (ht : P.underlying t = some (.array n e)) (he : (P.info? e).map (·.size) = some sz) (h0 : 0 < sz) (hx : a.eval x = .pointer (some ⟨g, j, none⟩)) (hi : a.eval i = .int k q) (hq : q = (m : Int)) (hm : m < n)
    (hg : Region.wanted { dst := dst, op := .indexAddr t x i, type := ty, pos := pos, after := after, guard := guard } (yielded ops a.tmps) = true)
    (h : wpList P ops Q rest (a.put dst (.pointer (some ⟨g, j + m * sz, none⟩))) w) : wpList P ops Q ({ dst := dst, op := .indexAddr t x i, type := ty, pos := pos, after := after, guard := guard } :: rest) a w :=
  wpList_ex hg (ex_indexE (ρ := a.eval) ht he h0 hx hi hq hm w) h
end
/-- Two nodes as cells. -/
def pairCs (x y : Nd) : List Value := x.cells ++ y.cells
theorem pair_fst (x y : Nd) : ((pairCs x y).drop 0).take 16 = x.cells := by
  rw [List.drop_zero, pairCs, List.take_left' (Arr.len x)]
theorem pair_snd (x y : Nd) : ((pairCs x y).drop 16).take 16 = y.cells := by
  rw [pairCs, List.drop_left' (Arr.len x)]; exact List.take_of_length_le (by rw [Arr.len]; omega)
theorem pair_len (x y : Nd) : (pairCs x y).length = 32 := by rw [pairCs, List.length_append, Arr.len, Arr.len]
/-- A claim's cells. -/
def claimCs (i : Int) (x : Nd) (v : Value) : List Value := .int .i64 i :: (x.cells ++ [v])
set_option maxRecDepth 100000 in
set_option maxHeartbeats 4000000 in
theorem law_nodes (w : World) (i : Int) (v : Value) (l : List UInt8) (x y : Nd) (hl : Byts w v l) : Calls Try.prog 13 #[.int .i64 i, v, .agg (pairCs x y).toArray] w (RetB w true) := by
  obtain ⟨ao, cap, rfl, hc⟩ := hl.shape
  have HL := hid hl
  clear hl
  have HH := hid (Holds.init w)
  by_cases hn : 300 < l.length
  · go_enter Try.func13, Try.ntmps13
    go_wp2_with (first
      | ((first
          | ((with_reducible apply wpL_skip); rfl; skip)
          | (go_at_call 23; (first | ((have hcall_ := hid (knownM_any _)); (with_reducible refine hcall_.out.mono ?_); clear hcall_) | (with_reducible refine (knownM_any _).mono ?_)); rintro e_ w2_ ⟨rfl, hb_⟩; (have hq_ := HH.out.grow hb_); clear HH; have HH := hid hq_; clear hq_ hb_)
          | ((with_reducible apply wpL_nilCheck); rfl; rfl)
          | ((with_reducible apply wpL_loadArr (t := 41) kA41 HH.out); rfl; (first | exact .here | exact .there .here | exact .there (.there .here) | exact .there (.there (.there .here)) | exact .there (.there (.there (.there .here))) | exact .there (.there (.there (.there (.there .here)))) | exact .there (.there (.there (.there (.there (.there .here))))) | exact .there (.there (.there (.there (.there (.there (.there .here))))))); rfl)
          | ((with_reducible apply wpL_loadC (t := 41) kA41 HH.out); rfl; (first | exact .here | exact .there .here | exact .there (.there .here) | exact .there (.there (.there .here)) | exact .there (.there (.there (.there .here))) | exact .there (.there (.there (.there (.there .here)))) | exact .there (.there (.there (.there (.there (.there .here))))) | exact .there (.there (.there (.there (.there (.there (.there .here))))))); (first | rfl | exact Arr.len _ | (simp; done)); rfl)
          | ((with_reducible apply wpL_len (t := 22) Try.underlying22); rfl; rfl)
          | ((with_reducible apply wpL_boxC (dst := some 5)); rfl; (exact HH.out); rfl; (intro g5_ w_ hq_; (try simp only [List.set_cons_zero, List.set_cons_succ] at hq_); clear HH; have HH := hid hq_; clear hq_))
          | ((with_reducible apply wpL_move); rfl; rfl)
          | ((with_reducible apply wpL_assign); rfl; rfl)
          | ((with_reducible apply wpL_pick); rfl; rfl; rfl)
          | ((with_reducible apply wpL_not); rfl; rfl)
          | ((with_reducible apply wpL_cmp (b := true)); rfl; rfl; rfl; (first | rfl | assumption | (simp only [cmpB, decide_eq_true_eq, decide_eq_false_iff_not, beq_iff_eq, bne_iff_ne, ne_eq, beq_eq_false_iff_ne, bne_eq_false_iff_eq, gt_iff_lt, ge_iff_le]; omega) | (simp; omega)); rfl)
          | ((with_reducible apply wpL_cmp (b := false)); rfl; rfl; rfl; (first | rfl | assumption | (simp only [cmpB, decide_eq_true_eq, decide_eq_false_iff_not, beq_iff_eq, bne_iff_ne, ne_eq, beq_eq_false_iff_ne, bne_eq_false_iff_eq, gt_iff_lt, ge_iff_le]; omega) | (simp; omega)); rfl)
          | ((with_reducible apply wpL_cmp); rfl; rfl; rfl; rfl; rfl)
          | ((with_reducible apply wpL_arith); rfl; rfl; rfl; (exact IntWalk.i64_in _ (by (try simp only [arithI]); omega)); rfl)); (try simp only [arithI, Act.put, Act.eval, List.setIfInBounds_toArray, List.set_cons_succ, List.set_cons_zero, Array.getD_eq_getD_getElem?, List.getElem?_toArray, List.getElem?_cons_succ, List.getElem?_cons_zero, Option.getD_some])))
    go_ret
    exact RetB.mk rfl HH.out.dropBlk.below
  · obtain ⟨d, hd⟩ : ∃ d, leafN i l = d := ⟨_, rfl⟩
    obtain ⟨r, hr⟩ : ∃ r, joinN i x y = r := ⟨_, rfl⟩
    have HD := hid hd
    have HR := hid hr
    clear hd hr
    go_enter Try.func13, Try.ntmps13
    go_wp2_with (first
      | ((first
          | ((with_reducible apply wpL_skip); rfl; skip)
          | (go_at_call 23; (first | ((have hcall_ := hid (knownM_any _)); (with_reducible refine hcall_.out.mono ?_); clear hcall_) | (with_reducible refine (knownM_any _).mono ?_)); rintro e_ w2_ ⟨rfl, hb_⟩; (have hq_ := HH.out.grow hb_); clear HH; have HH := hid hq_; clear hq_ hb_)
          | ((with_reducible apply wpL_nilCheck); rfl; rfl)
          | ((with_reducible apply wpL_loadArr (t := 41) kA41 HH.out); rfl; (first | exact .here | exact .there .here | exact .there (.there .here) | exact .there (.there (.there .here)) | exact .there (.there (.there (.there .here))) | exact .there (.there (.there (.there (.there .here)))) | exact .there (.there (.there (.there (.there (.there .here))))) | exact .there (.there (.there (.there (.there (.there (.there .here))))))); rfl)
          | ((with_reducible apply wpL_loadC (t := 41) kA41 HH.out); rfl; (first | exact .here | exact .there .here | exact .there (.there .here) | exact .there (.there (.there .here)) | exact .there (.there (.there (.there .here))) | exact .there (.there (.there (.there (.there .here)))) | exact .there (.there (.there (.there (.there (.there .here))))) | exact .there (.there (.there (.there (.there (.there (.there .here))))))); (first | rfl | exact Arr.len _ | (simp; done)); rfl)
          | ((with_reducible apply wpL_len (t := 22) Try.underlying22); rfl; rfl)
          | ((with_reducible apply wpL_boxC (dst := some 5)); rfl; (exact HH.out); rfl; (intro g5_ w_ hq_; (try simp only [List.set_cons_zero, List.set_cons_succ] at hq_); clear HH; have HH := hid hq_; clear hq_))
          | ((with_reducible apply wpL_move); rfl; rfl)
          | ((with_reducible apply wpL_assign); rfl; rfl)
          | ((with_reducible apply wpL_pick); rfl; rfl; rfl)
          | ((with_reducible apply wpL_not); rfl; rfl)
          | ((with_reducible apply wpL_cmp (b := true)); rfl; rfl; rfl; (first | rfl | assumption | (simp only [cmpB, decide_eq_true_eq, decide_eq_false_iff_not, beq_iff_eq, bne_iff_ne, ne_eq, beq_eq_false_iff_ne, bne_eq_false_iff_eq, gt_iff_lt, ge_iff_le]; omega) | (simp; omega)); rfl)
          | ((with_reducible apply wpL_cmp (b := false)); rfl; rfl; rfl; (first | rfl | assumption | (simp only [cmpB, decide_eq_true_eq, decide_eq_false_iff_not, beq_iff_eq, bne_iff_ne, ne_eq, beq_eq_false_iff_ne, bne_eq_false_iff_eq, gt_iff_lt, ge_iff_le]; omega) | (simp; omega)); rfl)
          | ((with_reducible apply wpL_cmp); rfl; rfl; rfl; rfl; rfl)
          | ((with_reducible apply wpL_arith); rfl; rfl; rfl; (exact IntWalk.i64_in _ (by (try simp only [arithI]); omega)); rfl)); (try simp only [arithI, Act.put, Act.eval, List.setIfInBounds_toArray, List.set_cons_succ, List.set_cons_zero, Array.getD_eq_getD_getElem?, List.getElem?_toArray, List.getElem?_cons_succ, List.getElem?_cons_zero, Option.getD_some])))
    refine wp_region_holds (by kernel_rfl) (by kernel_rfl) HH.out ?_
    repeat ((first
      | ((with_reducible apply wpQ_skip); rfl; skip)
      | ((with_reducible apply wpQ_call (v := d.val) (args := #[.int .i64 i, .slice ao l.length cap]) kB45); rfl; (intro wq hwq; exact (leaf_any wq i _ l (hwq.sl HL.out) (by omega)).mono fun e w' ⟨he, hb⟩ => ⟨by rw [he, HD.out], hwq.grow hb⟩); rfl)
      | ((with_reducible apply wpQ_call (v := d.val) (args := #[.int .i64 i, .slice ao l.length cap]) kB46); rfl; (intro wq hwq; exact (leafR_any wq i _ l (hwq.sl HL.out) (by omega)).mono fun e w' ⟨he, hb⟩ => ⟨by rw [he, HD.out], hwq.grow hb⟩); rfl)
      | ((with_reducible apply wpQ_call (v := r.val) (args := #[.int .i64 i, x.val, y.val]) kB37); rfl; (intro wq hwq; exact (join_any wq i x y).mono fun e w' ⟨he, hb⟩ => ⟨by rw [he, HR.out], hwq.grow hb⟩); rfl)
      | ((with_reducible apply wpQ_call (v := r.val) (args := #[.int .i64 i, x.val, y.val]) kB47); rfl; (intro wq hwq; exact (joinR_any wq i x y).mono fun e w' ⟨he, hb⟩ => ⟨by rw [he, HR.out], hwq.grow hb⟩); rfl)
      | ((with_reducible apply wpQ_eqlA (b := true) (p := d) (q := d) kR34); rfl; rfl; (exact arrRefl _); rfl)
      | ((with_reducible apply wpQ_eqlA (b := true) (p := r) (q := r) kR34); rfl; rfl; (exact arrRefl _); rfl)
      | ((with_reducible apply wpQ_indexE (m := 0) Try.underlying73 kS41 (by decide)); rfl; rfl; rfl; (exact (by decide)); rfl)
      | ((with_reducible apply wpQ_indexE (m := 1) Try.underlying73 kS41 (by decide)); rfl; rfl; rfl; (exact (by decide)); rfl)
      | ((with_reducible apply wpQ_loadPart (dst := some 25) (vs := x.cells) kA41); rfl; (exact .here); (exact pair_fst x y); (exact Arr.len _); rfl)
      | ((with_reducible apply wpQ_loadPart (dst := some 31) (vs := x.cells) kA41); rfl; (exact .here); (exact pair_fst x y); (exact Arr.len _); rfl)
      | ((with_reducible apply wpQ_loadPart (dst := some 27) (vs := y.cells) kA41); rfl; (exact .here); (exact pair_snd x y); (exact Arr.len _); rfl)
      | ((with_reducible apply wpQ_loadPart (dst := some 33) (vs := y.cells) kA41); rfl; (exact .here); (exact pair_snd x y); (exact Arr.len _); rfl)
      | ((with_reducible apply wpQ_nilCheck); rfl; rfl)
      | ((with_reducible apply wpQ_loadArr (t := 41) kA41); rfl; (first | exact .here | exact .there .here | exact .there (.there .here) | exact .there (.there (.there .here)) | exact .there (.there (.there (.there .here))) | exact .there (.there (.there (.there (.there .here)))) | exact .there (.there (.there (.there (.there (.there .here))))) | exact .there (.there (.there (.there (.there (.there (.there .here))))))); rfl)
      | ((with_reducible apply wpQ_loadC (t := 41) kA41); rfl; (first | exact .here | exact .there .here | exact .there (.there .here) | exact .there (.there (.there .here)) | exact .there (.there (.there (.there .here))) | exact .there (.there (.there (.there (.there .here)))) | exact .there (.there (.there (.there (.there (.there .here))))) | exact .there (.there (.there (.there (.there (.there (.there .here))))))); (first | rfl | exact Arr.len _ | (simp; done)); rfl)
      | ((with_reducible apply wpQ_len (t := 22) Try.underlying22); rfl; rfl)
      | ((with_reducible apply wpQ_move); rfl; rfl)
      | ((with_reducible apply wpQ_assign); rfl; rfl)
      | ((with_reducible apply wpQ_pick); rfl; rfl; rfl)
      | ((with_reducible apply wpQ_not); rfl; rfl)
      | ((with_reducible apply wpQ_cmp (b := true)); rfl; rfl; rfl; (first | rfl | assumption | (simp only [cmpB, decide_eq_true_eq, decide_eq_false_iff_not, beq_iff_eq, bne_iff_ne, ne_eq, beq_eq_false_iff_ne, bne_eq_false_iff_eq, gt_iff_lt, ge_iff_le]; omega) | (simp; omega)); rfl)
      | ((with_reducible apply wpQ_cmp (b := false)); rfl; rfl; rfl; (first | rfl | assumption | (simp only [cmpB, decide_eq_true_eq, decide_eq_false_iff_not, beq_iff_eq, bne_iff_ne, ne_eq, beq_eq_false_iff_ne, bne_eq_false_iff_eq, gt_iff_lt, ge_iff_le]; omega) | (simp; omega)); rfl)
      | ((with_reducible apply wpQ_cmp); rfl; rfl; rfl; rfl; rfl)
      | ((with_reducible apply wpQ_arith); rfl; rfl; rfl; (exact IntWalk.i64_in _ (by (try simp only [arithI]); omega)); rfl)); (try simp only [if_true, if_false, Bool.false_eq_true, arithI, Act.put, Act.eval, List.setIfInBounds_toArray, List.set_cons_succ, List.set_cons_zero, Array.getD_eq_getD_getElem?, List.getElem?_toArray, List.getElem?_cons_succ, List.getElem?_cons_zero, Option.getD_some]))
    refine wpQuiet_nil ?_
    intro wq hq_
    have HQ := hid hq_
    clear hq_
    go_wp2
    go_ret
    exact RetB.mk rfl HQ.out.dropBlk.below
end Go.Proofs.Ytgkfopodhikckaa
/- From the walks of the merkle laws to their rows: lists of nodes, pairs of nodes, claims. No condition. -/
namespace Go.Proofs.Ytgkfopodhikckaa
open Go.ChangeShapes Go.WideShapes Go.ChangeAt Go.RowKit
theorem cells41 : Try.prog.cellsOf 41 = 16 := by kernel_rfl
theorem cells73 : Try.prog.cellsOf 73 = 32 := by kernel_rfl
theorem cells79 : Try.prog.cellsOf 79 = 18 := by kernel_rfl
theorem cells30 : Try.prog.cellsOf 30 = 1 := by kernel_rfl
theorem cells3 : Try.prog.cellsOf 3 = 1 := by kernel_rfl
section
variable {H : Type} {enc : TypeId × Value → H} {W : World} {base : Nat}
theorem open_arrsC {P : Program} {ts t e : TypeId} {n : Nat} {fuel : Nat} {cs : List Value} {x : DataW H × List MemPlace} (hs : P.underlying ts = some (.slice t)) (ht : P.underlying t = some (.array n e)) (he : P.underlying e = some (.int .u8)) (hn : 0 < n)
    (hc : P.cellsOf t = n) (hc1 : P.cellsOf e = 1) (h : DataW.trod enc P W base (fun _ => true) true fuel ts cs = some x) :
    ∃ (v : Value) (l : List (Arr n)), cs = [v] ∧ Sl W v n l.length (flat l) := by
  rcases Deep.open_slice hs h with ⟨hcs, _⟩ | ⟨a, len', cap', m, fu, D, Pl, hcs, _, hle, _, hm, rfl, hx⟩
  · exact ⟨_, [], hcs, Sl.nil W n⟩
  · obtain ⟨l, hl, _⟩ := open_arrs hs ht he hn hc hc1 (v := .slice (some a) len' cap') ⟨_, _, _, rfl⟩ (by rw [hcs] at h; exact h)
    obtain ⟨_, _, e, _⟩ := hl.shape
    exact ⟨_, l, hcs, hl⟩
set_option maxRecDepth 100000 in
/-- An argument of type []N. -/
theorem open_nodes {v : Value} {d : DataW H} {p : List MemPlace} (hval : Value.okWide Try.prog W .any base 30 v)
    (h : DataW.Trod enc Try.prog W 0 (fun _ => true) true 30 v d p) : ∃ l : List Nd, Arrs W v l := by
  obtain ⟨fuel, hf⟩ := h
  obtain ⟨l, hl, _⟩ := open_arrs Try.underlying30 Try.underlying41 Try.underlying5 (by omega) cells41 cells5 (okWide_slice Try.underlying30 hval) hf
  exact ⟨l, hl⟩
set_option maxRecDepth 100000 in
/-- An argument of type [2]N. -/
theorem open_pair {v : Value} {d : DataW H} {p : List MemPlace} (hval : Value.okWide Try.prog W .any base 73 v)
    (h : DataW.Trod enc Try.prog W 0 (fun _ => true) true 73 v d p) : ∃ x y : Nd, v = .agg (pairCs x y).toArray := by
  obtain ⟨fuel, hf⟩ := h
  simp only [Value.okWide, Try.underlying73] at hval
  obtain ⟨cs, rfl, _⟩ := hval
  simp only [Value.cells] at hf
  cases fuel with
  | zero => simp [DataW.trod] at hf
  | succ m =>
    rw [DataW.trod_step] at hf
    unfold DataW.trodStep at hf
    simp only [Try.underlying73] at hf
    split at hf
    · rename_i hlen
      rw [cells73] at hlen
      simp only [Option.map_eq_some_iff] at hf
      obtain ⟨ys, hy, _⟩ := hf
      have hl := mapM_some_length hy
      have key : ∀ i, i < 2 → ∃ x : Nd, (cs.toList.drop (i * 16)).take 16 = x.cells := by
        intro i hi
        have h1 := mapM_some_get hy i i (by simp [hi])
        have hi' : i < ys.length := by rw [hl]; simpa using hi
        rw [List.getElem?_eq_getElem hi', cells41] at h1
        exact open_bytes Try.underlying41 Try.underlying5 cells41 cells5 h1
      obtain ⟨x, hx⟩ := key 0 (by omega)
      obtain ⟨y, hy2⟩ := key 1 (by omega)
      refine ⟨x, y, ?_⟩
      rw [Nat.zero_mul, List.drop_zero] at hx
      rw [Nat.one_mul] at hy2
      have e : cs.toList = pairCs x y := by
        rw [pairCs, ← hx, ← hy2]
        conv => lhs; rw [← List.take_append_drop 16 cs.toList]
        rw [List.take_of_length_le (l := List.drop 16 cs.toList) (by rw [List.length_drop]; omega)]
      rw [← e, Array.toArray_toList]
    · simp at hf
set_option maxRecDepth 100000 in
/-- An argument of type Claim. -/
theorem open_claim {v : Value} {d : DataW H} {p : List MemPlace} (hval : Value.okWide Try.prog W .any base 79 v)
    (h : DataW.Trod enc Try.prog W 0 (fun _ => true) true 79 v d p) : ∃ (i : Int) (x : Nd) (u : Value) (l : List Nd), (Lit.int .i64 i).wf = true ∧ Arrs W u l ∧ v = .agg (claimCs i x u).toArray := by
  obtain ⟨fuel, hf⟩ := h
  simp only [Value.okWide, Try.underlying79] at hval
  obtain ⟨cs, rfl, _⟩ := hval
  simp only [Value.cells] at hf
  obtain ⟨y0, y1, y2, n, _, hlen, h0, h1, h2⟩ := Deep.trod_struct3 Try.underlying79 hf
  rw [cells79] at hlen
  obtain ⟨i, hi, _, hw⟩ := DataW.trod_int Try.underlying3 h0
  obtain ⟨x, hx⟩ := open_bytes Try.underlying41 Try.underlying5 cells41 cells5 h1
  obtain ⟨u, l, hu, hl⟩ := open_arrsC Try.underlying30 Try.underlying41 Try.underlying5 (by omega) cells41 cells5 h2
  refine ⟨i, x, u, l, hw, hl, ?_⟩
  have e : cs.toList = claimCs i x u := by
    have a0 : (cs.toList.drop 0).take (Try.prog.cellsOf 3) = [.int .i64 i] := hi
    have a1 : (cs.toList.drop 1).take (Try.prog.cellsOf 41) = x.cells := hx
    have a2 : (cs.toList.drop 17).take (Try.prog.cellsOf 30) = [u] := hu
    rw [cells3, List.drop_zero] at a0
    rw [cells41] at a1
    rw [cells30] at a2
    generalize cs.toList = L at *
    have e1 : L = L.take 1 ++ ((L.drop 1).take 16 ++ (L.drop 17).take 1) := by
      conv => lhs; rw [← List.take_append_drop 1 L, ← List.take_append_drop 16 (L.drop 1), List.drop_drop]
      rw [List.take_of_length_le (l := L.drop 17) (by rw [List.length_drop]; omega)]
    rw [e1, a0, a1, a2]
    rfl
  rw [← e, Array.toArray_toList]
end
end Go.Proofs.Ytgkfopodhikckaa
/- Arrays of nodes; Pairs of the reference. Condition: at most 10^9 nodes. -/
namespace Go.Proofs.Ytgkfopodhikckaa
open Go.RowKit
attribute [local irreducible] wpQuiet wpList
section
variable {P : Program}
/-- A literal of an array of arrays. -/
theorem run_buildA {t e : TypeId} {n sz : Nat} {z : Value} (ht : P.underlying t = some (.array n e)) (hs : (P.info? e).map (·.size) = some sz) (hz : (P.info? t).map (·.zero) = some (some z)) (hzl : z.cells.size = n * sz)
    (vs : List Value) (hv : ∀ v ∈ vs, v.cells.size = sz) (hn : vs.length = n) (w : World) :
    (Instr.build t ((vs.zipIdx 0).map fun p => (p.2, p.1)).toArray).run P w = .ok (.agg (vs.flatMap (·.cells.toList)).toArray) w := by
  have hf := fill_parts vs hv [] z.cells.toList 0 (by simp) (by simp [hzl, hn])
  simp only [List.nil_append, Array.toArray_toList] at hf
  simp only [Instr.build, Sem.run_bind, run_zeroValue hz, run_underlying ht, run_sizeOf hs, Result.andThen_ok, hf, Sem.run_pure]
end
/-- Two nodes as one array. -/
def jn (x y : Nd) : Arr 32 := ⟨x.1 ++ y.1, by rw [List.length_append, x.2, y.2]⟩
theorem jn_cells (x y : Nd) : (jn x y).cells = pairCs x y := by simp [jn, Arr.cells, pairCs]
theorem jn_fst (x y : Nd) : ((jn x y).cells.drop 0).take 16 = x.cells := by rw [jn_cells]; exact pair_fst x y
theorem jn_snd (x y : Nd) : ((jn x y).cells.drop 16).take 16 = y.cells := by rw [jn_cells]; exact pair_snd x y
theorem run_pair {P : Program} {t e : TypeId} {z : Value} (ht : P.underlying t = some (.array 2 e)) (hs : (P.info? e).map (·.size) = some 16) (hz : (P.info? t).map (·.zero) = some (some z)) (hzl : z.cells.size = 32) (x y : Nd) (w : World) :
    (Instr.build t #[(0, x.val), (1, y.val)]).run P w = .ok (jn x y).val w := by
  have h := run_buildA (P := P) ht hs hz (by rw [hzl]) [x.val, y.val] (by intro v hv; simp only [List.mem_cons, List.not_mem_nil, or_false] at hv; rcases hv with rfl | rfl <;> exact arr_size _) rfl w
  have e : ([x.val, y.val].flatMap (·.cells.toList)) = (jn x y).cells := by
    rw [jn_cells]; simp [Arr.val, Value.cells, pairCs]
  rw [e] at h
  exact h
theorem BP73 (x y : Nd) (w : World) : (Instr.build 73 #[(0, x.val), (1, y.val)]).run Try.prog w = .ok (jn x y).val w := run_pair Try.underlying73 kS41 kZ73 (by simp [Value.cells, Arr.len]) x y w
theorem ex_build {P : Program} {ρ : Operand → Value} {dst : Option Tmp} {ty : TypeId} {pos : String} {after : Array Edge} {guard : Option (Nat × Bool)} {t : TypeId} {parts : Array (Nat × Operand)} {v : Value} {w : World} (hb : (Instr.build t (parts.toList.map fun p => (p.1, ρ p.2)).toArray).run P w = .ok v w) :
    (execOp ρ { dst := dst, op := .build t parts, type := ty, pos := pos, after := after, guard := guard }).run P w = .ok (.value v) w := by
  simp only [execOp, Sem.run_bind]
  rw [show (parts.map fun x => match x with | (i, y) => (i, ρ y)) = (parts.toList.map fun p => (p.1, ρ p.2)).toArray by rw [← Array.toList_map, Array.toArray_toList], hb]
  rfl
section
variable {P : Program} {w0 w : World} {S : List Nat} {bs : List (Nat × Obj)} {rows : List Row} {ops : Array Oper} {rest : List Oper} {a : Act} {Q : Exit → Act → World → Prop} {K : Act → Prop} {dst : Option Tmp} {ty : TypeId} {pos : String} {after : Array Edge} {guard : Option (Nat × Bool)}
/-- An array of bytes that is a part of a variable. -/
theorem wpL_loadPA {t : TypeId} {n : Nat} (hA : AggT P t n) (hH : Holds w0 S bs rows w) {v : Arr n} {x : Operand} {g j : Nat} {cs : List Value} {e : TypeId}
    (hx : a.eval x = .pointer (some ⟨g, j, none⟩)) (ho : Own bs g (objC cs e)) (hv : (cs.drop j).take n = v.cells)
    (hg : Region.wanted { dst := dst, op := .load t x, type := ty, pos := pos, after := after, guard := guard } (yielded ops a.tmps) = true)
    (h : wpList P ops Q rest (a.put dst v.val) w) : wpList P ops Q ({ dst := dst, op := .load t x, type := ty, pos := pos, after := after, guard := guard } :: rest) a w :=
  wpL_loadPart hA hH hx ho hv (Arr.len v) hg h
theorem wpQ_loadPA {t : TypeId} {n : Nat} (hA : AggT P t n) {v : Arr n} {x : Operand} {g j : Nat} {cs : List Value} {e : TypeId}
    (hx : a.eval x = .pointer (some ⟨g, j, none⟩)) (ho : Own bs g (objC cs e)) (hv : (cs.drop j).take n = v.cells)
    (hg : Region.wanted { dst := dst, op := .load t x, type := ty, pos := pos, after := after, guard := guard } (yielded ops a.tmps) = true)
    (h : wpQuiet P ops (fun w' => Holds w0 S bs rows w') K rest (a.put dst v.val)) : wpQuiet P ops (fun w' => Holds w0 S bs rows w') K ({ dst := dst, op := .load t x, type := ty, pos := pos, after := after, guard := guard } :: rest) a :=
  wpQ_loadPart hA hx ho hv (Arr.len v) hg h
end
/-- The pairs on the way. -/
def pairA (i : Nat) (x : Nd) (p : List Nd) (j : Nat) : Arr 32 := jn (pairC i j (curAt i x p j) (p.getD j Nd0)).1 (pairC i j (curAt i x p j) (p.getD j Nd0)).2
def pairL (i : Nat) (x : Nd) (p : List Nd) (k : Nat) : List (Arr 32) := (List.range k).map (pairA i x p)
theorem pairL_len (i : Nat) (x : Nd) (p : List Nd) (k : Nat) : (pairL i x p k).length = k := by simp [pairL]
theorem pairL_succ (i : Nat) (x : Nd) (p : List Nd) (k : Nat) : pairL i x p (k + 1) = pairL i x p k ++ [pairA i x p k] := by simp [pairL, List.range_succ]
def pairsV (x : Nd) (i : Int) (p : List Nd) : List (Arr 32) := if fromC i p.length = 0 then pairL i.toNat x p p.length else []
def RetPr (w : World) (ps : List (Arr 32)) (r : Nd) (c : Int) (e : Ending) (w' : World) : Prop :=
  ∃ ao cap, e = .returned (.tuple #[.slice ao ps.length cap, r.val, .int .i64 c]) ∧ w'.ownsRow w.heap.size 73 32 (.slice ao ps.length cap) ps.length (flat ps) ∧ Below w.heap.size w w'
theorem RetPr.no {w w' : World} {ps : List (Arr 32)} {r d : Nd} {b c : Int} (hp : ps = []) (hr : r = d) (h : b = c) (hb : Below w.heap.size w w') : RetPr w ps d c (.returned (.tuple #[.slice none 0 0, r.val, .int .i64 b])) w' := by
  subst hp hr h
  exact ⟨none, 0, rfl, World.ownsRow_nil _ _ _ _, hb⟩
def PairRel (w : World) (i : Nat) (x : Nd) (p : List Nd) (g3 g7 g10 : Nat) (v kv : Value) (wr : World) : Prop :=
  ∃ (k : Nat) (c : Nd) (r : List (Arr 32)) (ao : Option Addr) (cap : Nat), k ≤ p.length ∧ kv = .int .i64 k ∧ c = curAt i x p k ∧ r = pairL i x p k ∧ v = .slice ao r.length cap ∧
    Holds w [] [(g10, objC c.cells 41), (g7, objC Nd0.cells 41), (g3, objC x.cells 41)] [rowA 73 ao cap r] wr
section
variable {P : Program} {w0 w : World} {S : List Nat} {bs : List (Nat × Obj)} {rows : (Nat → Bool) → (Nat → Value) → List Row} {ia is_ sl : Nat} {e : TypeId} {zs vs : List Value} {l : Nat → Bool} {a : Act} {ty : TypeId} {pos : String} {after : Array Edge} {guard : Option (Nat × Bool)}
/-- A region's one new variable: laid by operation ia into slot sl, written by operation is_. -/
def AJ (w0 : World) (S : List Nat) (bs : List (Nat × Obj)) (rows : (Nat → Bool) → (Nat → Value) → List Row) (ia is_ sl : Nat) (e : TypeId) (zs vs : List Value) (l : Nat → Bool) (s : Nat → Value) (w : World) : Prop :=
  Holds w0 S (optB (l ia) (blkF (s sl), selO (l is_) (objC zs e) (objC vs e)) bs) (rows l s) w
theorem aj_alloc (hz : (P.info? e).map (·.zero) = some (some (.agg zs.toArray))) (hJ : AJ w0 S bs rows ia is_ sl e zs vs l (slF a) w) (hi : l ia = false) (h2 : l is_ = false) (hne : is_ ≠ ia) (hr : ∀ v, rows (upd l ia) (updS (slF a) sl v) = rows l (slF a)) :
    OpOK P { dst := some sl, op := .alloc e, type := ty, pos := pos, after := after, guard := guard } a w (fun v w' => AJ w0 S bs rows ia is_ sl e zs vs (upd l ia) (updS (slF a) sl v) w' ∧ isPtr v) := by
  unfold AJ at hJ
  rw [hi, optB_f] at hJ
  refine ok_alloc hz hJ (fun g w' h' => ?_)
  refine ⟨?_, ⟨g, rfl⟩⟩
  unfold AJ
  rw [hr, show upd l ia ia = true by simp [upd], show upd l ia is_ = false by simp [upd, hne, h2], show updS (slF a) sl (.pointer (some ⟨g, 0, none⟩)) sl = .pointer (some ⟨g, 0, none⟩) by simp [updS], optB_t]
  exact h'
theorem aj_store {t : TypeId} {n : Nat} {y : Operand} (hS : (P.info? t).map (·.size) = some n) (hzl : zs.length = n) (hvl : vs.length = n) (h1 : ∀ u ∈ vs, u.oneCell' = true) (hJ : AJ w0 S bs rows ia is_ sl e zs vs l (slF a) w) (la : l ia = true) (hi : l is_ = false) (hne : ia ≠ is_)
    (e1 : isPtr (a.eval (.tmp sl))) (e2 : a.eval y = .agg vs.toArray) (hr : rows (upd l is_) (slF a) = rows l (slF a)) :
    OpOK P { dst := none, op := .store t (.tmp sl) y, type := ty, pos := pos, after := after, guard := guard } a w (fun v w' => AJ w0 S bs rows ia is_ sl e zs vs (upd l is_) (slF a) w' ∧ True) := by
  obtain ⟨g, hg⟩ := e1
  have hs : slF a sl = .pointer (some ⟨g, 0, none⟩) := hg
  unfold AJ at hJ
  rw [la, hi, hs, optB_t] at hJ
  refine ok_store (vs := vs) (cs := zs) (e := e) hg e2 hS hJ .here hvl h1 hzl fun w' h' => ⟨?_, trivial⟩
  unfold AJ
  rw [hr, show upd l is_ ia = true by simp [upd, hne, la], show upd l is_ is_ = true by simp [upd], hs, optB_t]
  exact h'
end
set_option maxRecDepth 100000 in
set_option maxHeartbeats 8000000 in
theorem pairs_any (w : World) (v : Value) (x : Nd) (i : Int) (p : List Nd) (hp : Arrs w v p) (hn : p.length ≤ 1000000000) : Calls Try.prog 55 #[x.val, .int .i64 i, v] w (RetPr w (pairsV x i p) (fromV x i p) (fromC i p.length)) := by
  obtain ⟨ao, cap, rfl, _⟩ := hp.shape
  have HP := hid hp
  clear hp
  have HH := hid (Holds.init w)
  by_cases h10 : 10 < p.length
  · have e1 : fromC i p.length = 9 := by unfold fromC; rw [if_pos h10]
    have e2 : fromV x i p = Nd0 := by unfold fromV; rw [e1]; rfl
    have e3 : pairsV x i p = [] := by unfold pairsV; rw [e1]; rfl
    rw [e1, e2, e3]
    clear e1 e2 e3
    go_enter Try.func55, Try.ntmps55
    go_wp2_with (first
      | ((first
          | ((with_reducible apply wpL_skip); rfl; skip)
          | ((with_reducible apply wpList_build (parts := #[]) (v := Nd0.val)); (exact BZ41); rfl)
          | ((with_reducible apply wpL_storeC (t := 41) (vs := Nd0.cells)); rfl; rfl; (exact kS41); (exact HH.out); (exact .here); (exact Arr.len _); (exact cells_one _); (exact Arr.len _); rfl; (intro w_ hq_; clear HH; have HH := hid hq_; clear hq_))
          | ((with_reducible apply wpL_nilCheck); rfl; rfl)
          | ((with_reducible apply wpL_loadArr (t := 41) kA41 HH.out); rfl; (first | exact .here | exact .there .here | exact .there (.there .here) | exact .there (.there (.there .here)) | exact .there (.there (.there (.there .here))) | exact .there (.there (.there (.there (.there .here)))) | exact .there (.there (.there (.there (.there (.there .here))))) | exact .there (.there (.there (.there (.there (.there (.there .here))))))); rfl)
          | ((with_reducible apply wpL_loadC (t := 41) kA41 HH.out); rfl; (first | exact .here | exact .there .here | exact .there (.there .here) | exact .there (.there (.there .here)) | exact .there (.there (.there (.there .here))) | exact .there (.there (.there (.there (.there .here)))) | exact .there (.there (.there (.there (.there (.there .here))))) | exact .there (.there (.there (.there (.there (.there (.there .here))))))); (first | rfl | exact Arr.len _ | (simp; done)); rfl)
          | ((with_reducible apply wpL_loadC (t := 73) kA73 HH.out); rfl; (first | exact .here | exact .there .here | exact .there (.there .here) | exact .there (.there (.there .here)) | exact .there (.there (.there (.there .here))) | exact .there (.there (.there (.there (.there .here)))) | exact .there (.there (.there (.there (.there (.there .here))))) | exact .there (.there (.there (.there (.there (.there (.there .here))))))); (first | rfl | exact Arr.len _ | (simp; done)); rfl)
          | ((with_reducible apply wpL_len (t := 30) Try.underlying30); rfl; rfl)
          | ((with_reducible apply wpL_len (t := 98) Try.underlying98); rfl; rfl)
          | ((with_reducible apply wpL_boxArr (dst := some 3)); rfl; (exact HH.out); rfl; (intro g3_ w_ hq_; (try simp only [List.set_cons_zero, List.set_cons_succ] at hq_); clear HH; have HH := hid hq_; clear hq_))
          | ((with_reducible apply wpL_allocC (dst := some 7) kZ41 HH.out); rfl; (intro g7_ w_ hq_; (try simp only [List.set_cons_zero, List.set_cons_succ] at hq_); clear HH; have HH := hid hq_; clear hq_))
          | ((with_reducible apply wpL_allocC (dst := some 10) kZ41 HH.out); rfl; (intro g10_ w_ hq_; (try simp only [List.set_cons_zero, List.set_cons_succ] at hq_); clear HH; have HH := hid hq_; clear hq_))
          | ((with_reducible apply wpL_allocC (dst := some 12) kZ73 HH.out); rfl; (intro g12_ w_ hq_; (try simp only [List.set_cons_zero, List.set_cons_succ] at hq_); clear HH; have HH := hid hq_; clear hq_))
          | ((with_reducible apply wpL_storeArr (t := 41) kS41 HH.out); rfl; rfl; (first | exact .here | exact .there .here | exact .there (.there .here) | exact .there (.there (.there .here)) | exact .there (.there (.there (.there .here))) | exact .there (.there (.there (.there (.there .here)))) | exact .there (.there (.there (.there (.there (.there .here))))) | exact .there (.there (.there (.there (.there (.there (.there .here))))))); (first | rfl | exact Arr.len _ | (simp; done)); rfl; (intro w_ hq_; (try simp only [List.set_cons_zero, List.set_cons_succ] at hq_); clear HH; have HH := hid hq_; clear hq_))
          | ((with_reducible apply wpL_storeC (t := 41)); rfl; rfl; (exact kS41); (exact HH.out); (first | exact .here | exact .there .here | exact .there (.there .here) | exact .there (.there (.there .here)) | exact .there (.there (.there (.there .here))) | exact .there (.there (.there (.there (.there .here)))) | exact .there (.there (.there (.there (.there (.there .here))))) | exact .there (.there (.there (.there (.there (.there (.there .here))))))); (first | rfl | exact Arr.len _ | (simp; done)); (first | rfl | (intro u_ hu_; simp only [List.mem_cons, List.not_mem_nil, or_false] at hu_; rcases hu_ with rfl | hu_; rfl) | exact byt_cell1 _ | exact cells_one _ | exact wrd_one _ | exact flat_cell1 _); (first | rfl | exact Arr.len _ | (simp; done)); rfl; (intro w_ hq_; (try simp only [List.set_cons_zero, List.set_cons_succ] at hq_); clear HH; have HH := hid hq_; clear hq_))
          | ((with_reducible apply wpL_storeC (t := 73)); rfl; rfl; (exact kS73); (exact HH.out); (first | exact .here | exact .there .here | exact .there (.there .here) | exact .there (.there (.there .here)) | exact .there (.there (.there (.there .here))) | exact .there (.there (.there (.there (.there .here)))) | exact .there (.there (.there (.there (.there (.there .here))))) | exact .there (.there (.there (.there (.there (.there (.there .here))))))); (first | rfl | exact Arr.len _ | (simp; done)); (first | rfl | (intro u_ hu_; simp only [List.mem_cons, List.not_mem_nil, or_false] at hu_; rcases hu_ with rfl | hu_; rfl) | exact byt_cell1 _ | exact cells_one _ | exact wrd_one _ | exact flat_cell1 _); (first | rfl | exact Arr.len _ | (simp; done)); rfl; (intro w_ hq_; (try simp only [List.set_cons_zero, List.set_cons_succ] at hq_); clear HH; have HH := hid hq_; clear hq_))
          | ((with_reducible apply wpL_move); rfl; rfl)
          | ((with_reducible apply wpL_assign); rfl; rfl)
          | ((with_reducible apply wpL_pick); rfl; rfl; rfl)
          | ((with_reducible apply wpL_not); rfl; rfl)
          | ((with_reducible apply wpL_cmp (b := true)); rfl; rfl; rfl; (first | rfl | assumption | (simp only [cmpB, decide_eq_true_eq, decide_eq_false_iff_not, beq_iff_eq, bne_iff_ne, ne_eq, beq_eq_false_iff_ne, bne_eq_false_iff_eq, gt_iff_lt, ge_iff_le]; omega) | (simp; omega)); rfl)
          | ((with_reducible apply wpL_cmp (b := false)); rfl; rfl; rfl; (first | rfl | assumption | (simp only [cmpB, decide_eq_true_eq, decide_eq_false_iff_not, beq_iff_eq, bne_iff_ne, ne_eq, beq_eq_false_iff_ne, bne_eq_false_iff_eq, gt_iff_lt, ge_iff_le]; omega) | (simp; omega)); rfl)
          | ((with_reducible apply wpL_cmp); rfl; rfl; rfl; rfl; rfl)
          | ((with_reducible apply wpL_arith); rfl; rfl; rfl; (exact IntWalk.i64_in _ (by (try simp only [arithI]); omega)); rfl)); (try simp only [arithI, Act.put, Act.eval, List.setIfInBounds_toArray, List.set_cons_succ, List.set_cons_zero, Array.getD_eq_getD_getElem?, List.getElem?_toArray, List.getElem?_cons_succ, List.getElem?_cons_zero, Option.getD_some])))
    refine bodyPost_ret (res3 rfl (by rfl) (resC kA41 HH.out (by rfl) .here (Arr.len _)) (by rfl)) rfl ?_
    exact RetPr.no rfl rfl rfl HH.out.dropBlk.dropBlk.below
  · by_cases h0 : i < 0
    · have e1 : fromC i p.length = 8 := by unfold fromC; rw [if_neg h10, if_pos (.inl h0)]
      have e2 : fromV x i p = Nd0 := by unfold fromV; rw [e1]; rfl
      have e3 : pairsV x i p = [] := by unfold pairsV; rw [e1]; rfl
      rw [e1, e2, e3]
      clear e1 e2 e3
      go_enter Try.func55, Try.ntmps55
      go_wp2_with (first
        | ((first
            | ((with_reducible apply wpL_skip); rfl; skip)
            | ((with_reducible apply wpList_build (parts := #[]) (v := Nd0.val)); (exact BZ41); rfl)
            | ((with_reducible apply wpL_storeC (t := 41) (vs := Nd0.cells)); rfl; rfl; (exact kS41); (exact HH.out); (exact .here); (exact Arr.len _); (exact cells_one _); (exact Arr.len _); rfl; (intro w_ hq_; clear HH; have HH := hid hq_; clear hq_))
            | ((with_reducible apply wpL_nilCheck); rfl; rfl)
            | ((with_reducible apply wpL_loadArr (t := 41) kA41 HH.out); rfl; (first | exact .here | exact .there .here | exact .there (.there .here) | exact .there (.there (.there .here)) | exact .there (.there (.there (.there .here))) | exact .there (.there (.there (.there (.there .here)))) | exact .there (.there (.there (.there (.there (.there .here))))) | exact .there (.there (.there (.there (.there (.there (.there .here))))))); rfl)
            | ((with_reducible apply wpL_loadC (t := 41) kA41 HH.out); rfl; (first | exact .here | exact .there .here | exact .there (.there .here) | exact .there (.there (.there .here)) | exact .there (.there (.there (.there .here))) | exact .there (.there (.there (.there (.there .here)))) | exact .there (.there (.there (.there (.there (.there .here))))) | exact .there (.there (.there (.there (.there (.there (.there .here))))))); (first | rfl | exact Arr.len _ | (simp; done)); rfl)
            | ((with_reducible apply wpL_loadC (t := 73) kA73 HH.out); rfl; (first | exact .here | exact .there .here | exact .there (.there .here) | exact .there (.there (.there .here)) | exact .there (.there (.there (.there .here))) | exact .there (.there (.there (.there (.there .here)))) | exact .there (.there (.there (.there (.there (.there .here))))) | exact .there (.there (.there (.there (.there (.there (.there .here))))))); (first | rfl | exact Arr.len _ | (simp; done)); rfl)
            | ((with_reducible apply wpL_len (t := 30) Try.underlying30); rfl; rfl)
            | ((with_reducible apply wpL_len (t := 98) Try.underlying98); rfl; rfl)
            | ((with_reducible apply wpL_boxArr (dst := some 3)); rfl; (exact HH.out); rfl; (intro g3_ w_ hq_; (try simp only [List.set_cons_zero, List.set_cons_succ] at hq_); clear HH; have HH := hid hq_; clear hq_))
            | ((with_reducible apply wpL_allocC (dst := some 7) kZ41 HH.out); rfl; (intro g7_ w_ hq_; (try simp only [List.set_cons_zero, List.set_cons_succ] at hq_); clear HH; have HH := hid hq_; clear hq_))
            | ((with_reducible apply wpL_allocC (dst := some 10) kZ41 HH.out); rfl; (intro g10_ w_ hq_; (try simp only [List.set_cons_zero, List.set_cons_succ] at hq_); clear HH; have HH := hid hq_; clear hq_))
            | ((with_reducible apply wpL_allocC (dst := some 12) kZ73 HH.out); rfl; (intro g12_ w_ hq_; (try simp only [List.set_cons_zero, List.set_cons_succ] at hq_); clear HH; have HH := hid hq_; clear hq_))
            | ((with_reducible apply wpL_storeArr (t := 41) kS41 HH.out); rfl; rfl; (first | exact .here | exact .there .here | exact .there (.there .here) | exact .there (.there (.there .here)) | exact .there (.there (.there (.there .here))) | exact .there (.there (.there (.there (.there .here)))) | exact .there (.there (.there (.there (.there (.there .here))))) | exact .there (.there (.there (.there (.there (.there (.there .here))))))); (first | rfl | exact Arr.len _ | (simp; done)); rfl; (intro w_ hq_; (try simp only [List.set_cons_zero, List.set_cons_succ] at hq_); clear HH; have HH := hid hq_; clear hq_))
            | ((with_reducible apply wpL_storeC (t := 41)); rfl; rfl; (exact kS41); (exact HH.out); (first | exact .here | exact .there .here | exact .there (.there .here) | exact .there (.there (.there .here)) | exact .there (.there (.there (.there .here))) | exact .there (.there (.there (.there (.there .here)))) | exact .there (.there (.there (.there (.there (.there .here))))) | exact .there (.there (.there (.there (.there (.there (.there .here))))))); (first | rfl | exact Arr.len _ | (simp; done)); (first | rfl | (intro u_ hu_; simp only [List.mem_cons, List.not_mem_nil, or_false] at hu_; rcases hu_ with rfl | hu_; rfl) | exact byt_cell1 _ | exact cells_one _ | exact wrd_one _ | exact flat_cell1 _); (first | rfl | exact Arr.len _ | (simp; done)); rfl; (intro w_ hq_; (try simp only [List.set_cons_zero, List.set_cons_succ] at hq_); clear HH; have HH := hid hq_; clear hq_))
            | ((with_reducible apply wpL_storeC (t := 73)); rfl; rfl; (exact kS73); (exact HH.out); (first | exact .here | exact .there .here | exact .there (.there .here) | exact .there (.there (.there .here)) | exact .there (.there (.there (.there .here))) | exact .there (.there (.there (.there (.there .here)))) | exact .there (.there (.there (.there (.there (.there .here))))) | exact .there (.there (.there (.there (.there (.there (.there .here))))))); (first | rfl | exact Arr.len _ | (simp; done)); (first | rfl | (intro u_ hu_; simp only [List.mem_cons, List.not_mem_nil, or_false] at hu_; rcases hu_ with rfl | hu_; rfl) | exact byt_cell1 _ | exact cells_one _ | exact wrd_one _ | exact flat_cell1 _); (first | rfl | exact Arr.len _ | (simp; done)); rfl; (intro w_ hq_; (try simp only [List.set_cons_zero, List.set_cons_succ] at hq_); clear HH; have HH := hid hq_; clear hq_))
            | ((with_reducible apply wpL_move); rfl; rfl)
            | ((with_reducible apply wpL_assign); rfl; rfl)
            | ((with_reducible apply wpL_pick); rfl; rfl; rfl)
            | ((with_reducible apply wpL_not); rfl; rfl)
            | ((with_reducible apply wpL_cmp (b := true)); rfl; rfl; rfl; (first | rfl | assumption | (simp only [cmpB, decide_eq_true_eq, decide_eq_false_iff_not, beq_iff_eq, bne_iff_ne, ne_eq, beq_eq_false_iff_ne, bne_eq_false_iff_eq, gt_iff_lt, ge_iff_le]; omega) | (simp; omega)); rfl)
            | ((with_reducible apply wpL_cmp (b := false)); rfl; rfl; rfl; (first | rfl | assumption | (simp only [cmpB, decide_eq_true_eq, decide_eq_false_iff_not, beq_iff_eq, bne_iff_ne, ne_eq, beq_eq_false_iff_ne, bne_eq_false_iff_eq, gt_iff_lt, ge_iff_le]; omega) | (simp; omega)); rfl)
            | ((with_reducible apply wpL_cmp); rfl; rfl; rfl; rfl; rfl)
            | ((with_reducible apply wpL_arith); rfl; rfl; rfl; (exact IntWalk.i64_in _ (by (try simp only [arithI]); omega)); rfl)); (try simp only [arithI, Act.put, Act.eval, List.setIfInBounds_toArray, List.set_cons_succ, List.set_cons_zero, Array.getD_eq_getD_getElem?, List.getElem?_toArray, List.getElem?_cons_succ, List.getElem?_cons_zero, Option.getD_some])))
      refine bodyPost_ret (res3 rfl (by rfl) (resC kA41 HH.out (by rfl) .here (Arr.len _)) (by rfl)) rfl ?_
      exact RetPr.no rfl rfl rfl HH.out.dropBlk.dropBlk.below
    · obtain ⟨j, rfl⟩ : ∃ j : Nat, i = j := ⟨i.toNat, by omega⟩
      obtain ⟨q0, hq⟩ : ∃ q0, 2 ^ p.length = q0 := ⟨_, rfl⟩
      have hq10 : q0 ≤ 1024 := by rw [← hq]; exact Nat.le_trans (Nat.pow_le_pow_right (by decide) (show p.length ≤ 10 by omega)) (by decide)
      have HQ0 := hid (show 1 * 2 ^ p.length = q0 by rw [Nat.one_mul, hq])
      have HW := hid (show IntKind.i64.wrap ((q0 : Nat) : Int) = (q0 : Int) from IntWalk.i64_in _ (by omega))
      by_cases hj : q0 ≤ j
      · have e1 : fromC (j : Int) p.length = 8 := by unfold fromC; rw [if_neg h10, if_pos (.inr (by rw [hq]; omega))]
        have e2 : fromV x (j : Int) p = Nd0 := by unfold fromV; rw [e1]; rfl
        have e3 : pairsV x (j : Int) p = [] := by unfold pairsV; rw [e1]; rfl
        rw [e1, e2, e3]
        clear e1 e2 e3 hq
        go_enter Try.func55, Try.ntmps55
        go_wp2_with (first
          | ((first
              | ((with_reducible apply wpL_skip); rfl; skip)
              | ((with_reducible apply wpL_shlP (m := 1) (k := p.length) (r := q0)); rfl; rfl; rfl; rfl; (exact (by omega)); (exact HQ0.out); (exact HW.out); rfl)
              | ((with_reducible apply wpList_build (parts := #[]) (v := Nd0.val)); (exact BZ41); rfl)
              | ((with_reducible apply wpL_storeC (t := 41) (vs := Nd0.cells)); rfl; rfl; (exact kS41); (exact HH.out); (exact .here); (exact Arr.len _); (exact cells_one _); (exact Arr.len _); rfl; (intro w_ hq_; clear HH; have HH := hid hq_; clear hq_))
              | ((with_reducible apply wpL_nilCheck); rfl; rfl)
              | ((with_reducible apply wpL_loadArr (t := 41) kA41 HH.out); rfl; (first | exact .here | exact .there .here | exact .there (.there .here) | exact .there (.there (.there .here)) | exact .there (.there (.there (.there .here))) | exact .there (.there (.there (.there (.there .here)))) | exact .there (.there (.there (.there (.there (.there .here))))) | exact .there (.there (.there (.there (.there (.there (.there .here))))))); rfl)
              | ((with_reducible apply wpL_loadC (t := 41) kA41 HH.out); rfl; (first | exact .here | exact .there .here | exact .there (.there .here) | exact .there (.there (.there .here)) | exact .there (.there (.there (.there .here))) | exact .there (.there (.there (.there (.there .here)))) | exact .there (.there (.there (.there (.there (.there .here))))) | exact .there (.there (.there (.there (.there (.there (.there .here))))))); (first | rfl | exact Arr.len _ | (simp; done)); rfl)
              | ((with_reducible apply wpL_loadC (t := 73) kA73 HH.out); rfl; (first | exact .here | exact .there .here | exact .there (.there .here) | exact .there (.there (.there .here)) | exact .there (.there (.there (.there .here))) | exact .there (.there (.there (.there (.there .here)))) | exact .there (.there (.there (.there (.there (.there .here))))) | exact .there (.there (.there (.there (.there (.there (.there .here))))))); (first | rfl | exact Arr.len _ | (simp; done)); rfl)
              | ((with_reducible apply wpL_len (t := 30) Try.underlying30); rfl; rfl)
              | ((with_reducible apply wpL_len (t := 98) Try.underlying98); rfl; rfl)
              | ((with_reducible apply wpL_boxArr (dst := some 3)); rfl; (exact HH.out); rfl; (intro g3_ w_ hq_; (try simp only [List.set_cons_zero, List.set_cons_succ] at hq_); clear HH; have HH := hid hq_; clear hq_))
              | ((with_reducible apply wpL_allocC (dst := some 7) kZ41 HH.out); rfl; (intro g7_ w_ hq_; (try simp only [List.set_cons_zero, List.set_cons_succ] at hq_); clear HH; have HH := hid hq_; clear hq_))
              | ((with_reducible apply wpL_allocC (dst := some 10) kZ41 HH.out); rfl; (intro g10_ w_ hq_; (try simp only [List.set_cons_zero, List.set_cons_succ] at hq_); clear HH; have HH := hid hq_; clear hq_))
              | ((with_reducible apply wpL_allocC (dst := some 12) kZ73 HH.out); rfl; (intro g12_ w_ hq_; (try simp only [List.set_cons_zero, List.set_cons_succ] at hq_); clear HH; have HH := hid hq_; clear hq_))
              | ((with_reducible apply wpL_storeArr (t := 41) kS41 HH.out); rfl; rfl; (first | exact .here | exact .there .here | exact .there (.there .here) | exact .there (.there (.there .here)) | exact .there (.there (.there (.there .here))) | exact .there (.there (.there (.there (.there .here)))) | exact .there (.there (.there (.there (.there (.there .here))))) | exact .there (.there (.there (.there (.there (.there (.there .here))))))); (first | rfl | exact Arr.len _ | (simp; done)); rfl; (intro w_ hq_; (try simp only [List.set_cons_zero, List.set_cons_succ] at hq_); clear HH; have HH := hid hq_; clear hq_))
              | ((with_reducible apply wpL_storeC (t := 41)); rfl; rfl; (exact kS41); (exact HH.out); (first | exact .here | exact .there .here | exact .there (.there .here) | exact .there (.there (.there .here)) | exact .there (.there (.there (.there .here))) | exact .there (.there (.there (.there (.there .here)))) | exact .there (.there (.there (.there (.there (.there .here))))) | exact .there (.there (.there (.there (.there (.there (.there .here))))))); (first | rfl | exact Arr.len _ | (simp; done)); (first | rfl | (intro u_ hu_; simp only [List.mem_cons, List.not_mem_nil, or_false] at hu_; rcases hu_ with rfl | hu_; rfl) | exact byt_cell1 _ | exact cells_one _ | exact wrd_one _ | exact flat_cell1 _); (first | rfl | exact Arr.len _ | (simp; done)); rfl; (intro w_ hq_; (try simp only [List.set_cons_zero, List.set_cons_succ] at hq_); clear HH; have HH := hid hq_; clear hq_))
              | ((with_reducible apply wpL_storeC (t := 73)); rfl; rfl; (exact kS73); (exact HH.out); (first | exact .here | exact .there .here | exact .there (.there .here) | exact .there (.there (.there .here)) | exact .there (.there (.there (.there .here))) | exact .there (.there (.there (.there (.there .here)))) | exact .there (.there (.there (.there (.there (.there .here))))) | exact .there (.there (.there (.there (.there (.there (.there .here))))))); (first | rfl | exact Arr.len _ | (simp; done)); (first | rfl | (intro u_ hu_; simp only [List.mem_cons, List.not_mem_nil, or_false] at hu_; rcases hu_ with rfl | hu_; rfl) | exact byt_cell1 _ | exact cells_one _ | exact wrd_one _ | exact flat_cell1 _); (first | rfl | exact Arr.len _ | (simp; done)); rfl; (intro w_ hq_; (try simp only [List.set_cons_zero, List.set_cons_succ] at hq_); clear HH; have HH := hid hq_; clear hq_))
              | ((with_reducible apply wpL_move); rfl; rfl)
              | ((with_reducible apply wpL_assign); rfl; rfl)
              | ((with_reducible apply wpL_pick); rfl; rfl; rfl)
              | ((with_reducible apply wpL_not); rfl; rfl)
              | ((with_reducible apply wpL_cmp (b := true)); rfl; rfl; rfl; (first | rfl | assumption | (simp only [cmpB, decide_eq_true_eq, decide_eq_false_iff_not, beq_iff_eq, bne_iff_ne, ne_eq, beq_eq_false_iff_ne, bne_eq_false_iff_eq, gt_iff_lt, ge_iff_le]; omega) | (simp; omega)); rfl)
              | ((with_reducible apply wpL_cmp (b := false)); rfl; rfl; rfl; (first | rfl | assumption | (simp only [cmpB, decide_eq_true_eq, decide_eq_false_iff_not, beq_iff_eq, bne_iff_ne, ne_eq, beq_eq_false_iff_ne, bne_eq_false_iff_eq, gt_iff_lt, ge_iff_le]; omega) | (simp; omega)); rfl)
              | ((with_reducible apply wpL_cmp); rfl; rfl; rfl; rfl; rfl)
              | ((with_reducible apply wpL_arith); rfl; rfl; rfl; (exact IntWalk.i64_in _ (by (try simp only [arithI]); omega)); rfl)); (try simp only [arithI, Act.put, Act.eval, List.setIfInBounds_toArray, List.set_cons_succ, List.set_cons_zero, Array.getD_eq_getD_getElem?, List.getElem?_toArray, List.getElem?_cons_succ, List.getElem?_cons_zero, Option.getD_some])))
        refine bodyPost_ret (res3 rfl (by rfl) (resC kA41 HH.out (by rfl) .here (Arr.len _)) (by rfl)) rfl ?_
        exact RetPr.no rfl rfl rfl HH.out.dropBlk.dropBlk.below
      · have e1 : fromC (j : Int) p.length = 0 := by unfold fromC; rw [if_neg h10, if_neg (by rw [hq]; omega)]
        obtain ⟨d, hd⟩ : ∃ d, curAt j x p p.length = d := ⟨_, rfl⟩
        have e2 : fromV x (j : Int) p = d := by unfold fromV; rw [if_pos e1]; exact hd
        obtain ⟨ps, hps⟩ : ∃ ps, pairL j x p p.length = ps := ⟨_, rfl⟩
        have e3 : pairsV x (j : Int) p = ps := by unfold pairsV; rw [if_pos e1]; exact hps
        have HD := hid hd
        have HPS := hid hps
        rw [e1, e2, e3]
        clear e1 e2 e3 hq hd hps
        obtain ⟨i, rfl⟩ : ∃ i, i = j := ⟨_, rfl⟩
        go_enter Try.func55, Try.ntmps55
        go_wp2_with (first
          | ((first
              | ((with_reducible apply wpL_skip); rfl; skip)
              | ((with_reducible apply wpL_shlP (m := 1) (k := p.length) (r := q0)); rfl; rfl; rfl; rfl; (exact (by omega)); (exact HQ0.out); (exact HW.out); rfl)
              | ((with_reducible apply wpL_nilCheck); rfl; rfl)
              | ((with_reducible apply wpL_loadArr (t := 41) kA41 HH.out); rfl; (first | exact .here | exact .there .here | exact .there (.there .here) | exact .there (.there (.there .here)) | exact .there (.there (.there (.there .here))) | exact .there (.there (.there (.there (.there .here)))) | exact .there (.there (.there (.there (.there (.there .here))))) | exact .there (.there (.there (.there (.there (.there (.there .here))))))); rfl)
              | ((with_reducible apply wpL_loadC (t := 41) kA41 HH.out); rfl; (first | exact .here | exact .there .here | exact .there (.there .here) | exact .there (.there (.there .here)) | exact .there (.there (.there (.there .here))) | exact .there (.there (.there (.there (.there .here)))) | exact .there (.there (.there (.there (.there (.there .here))))) | exact .there (.there (.there (.there (.there (.there (.there .here))))))); (first | rfl | exact Arr.len _ | (simp; done)); rfl)
              | ((with_reducible apply wpL_loadC (t := 73) kA73 HH.out); rfl; (first | exact .here | exact .there .here | exact .there (.there .here) | exact .there (.there (.there .here)) | exact .there (.there (.there (.there .here))) | exact .there (.there (.there (.there (.there .here)))) | exact .there (.there (.there (.there (.there (.there .here))))) | exact .there (.there (.there (.there (.there (.there (.there .here))))))); (first | rfl | exact Arr.len _ | (simp; done)); rfl)
              | ((with_reducible apply wpL_len (t := 30) Try.underlying30); rfl; rfl)
              | ((with_reducible apply wpL_len (t := 98) Try.underlying98); rfl; rfl)
              | ((with_reducible apply wpL_boxArr (dst := some 3)); rfl; (exact HH.out); rfl; (intro g3_ w_ hq_; (try simp only [List.set_cons_zero, List.set_cons_succ] at hq_); clear HH; have HH := hid hq_; clear hq_))
              | ((with_reducible apply wpL_allocC (dst := some 7) kZ41 HH.out); rfl; (intro g7_ w_ hq_; (try simp only [List.set_cons_zero, List.set_cons_succ] at hq_); clear HH; have HH := hid hq_; clear hq_))
              | ((with_reducible apply wpL_allocC (dst := some 10) kZ41 HH.out); rfl; (intro g10_ w_ hq_; (try simp only [List.set_cons_zero, List.set_cons_succ] at hq_); clear HH; have HH := hid hq_; clear hq_))
              | ((with_reducible apply wpL_allocC (dst := some 12) kZ73 HH.out); rfl; (intro g12_ w_ hq_; (try simp only [List.set_cons_zero, List.set_cons_succ] at hq_); clear HH; have HH := hid hq_; clear hq_))
              | ((with_reducible apply wpL_storeArr (t := 41) kS41 HH.out); rfl; rfl; (first | exact .here | exact .there .here | exact .there (.there .here) | exact .there (.there (.there .here)) | exact .there (.there (.there (.there .here))) | exact .there (.there (.there (.there (.there .here)))) | exact .there (.there (.there (.there (.there (.there .here))))) | exact .there (.there (.there (.there (.there (.there (.there .here))))))); (first | rfl | exact Arr.len _ | (simp; done)); rfl; (intro w_ hq_; (try simp only [List.set_cons_zero, List.set_cons_succ] at hq_); clear HH; have HH := hid hq_; clear hq_))
              | ((with_reducible apply wpL_storeC (t := 41)); rfl; rfl; (exact kS41); (exact HH.out); (first | exact .here | exact .there .here | exact .there (.there .here) | exact .there (.there (.there .here)) | exact .there (.there (.there (.there .here))) | exact .there (.there (.there (.there (.there .here)))) | exact .there (.there (.there (.there (.there (.there .here))))) | exact .there (.there (.there (.there (.there (.there (.there .here))))))); (first | rfl | exact Arr.len _ | (simp; done)); (first | rfl | (intro u_ hu_; simp only [List.mem_cons, List.not_mem_nil, or_false] at hu_; rcases hu_ with rfl | hu_; rfl) | exact byt_cell1 _ | exact cells_one _ | exact wrd_one _ | exact flat_cell1 _); (first | rfl | exact Arr.len _ | (simp; done)); rfl; (intro w_ hq_; (try simp only [List.set_cons_zero, List.set_cons_succ] at hq_); clear HH; have HH := hid hq_; clear hq_))
              | ((with_reducible apply wpL_storeC (t := 73)); rfl; rfl; (exact kS73); (exact HH.out); (first | exact .here | exact .there .here | exact .there (.there .here) | exact .there (.there (.there .here)) | exact .there (.there (.there (.there .here))) | exact .there (.there (.there (.there (.there .here)))) | exact .there (.there (.there (.there (.there (.there .here))))) | exact .there (.there (.there (.there (.there (.there (.there .here))))))); (first | rfl | exact Arr.len _ | (simp; done)); (first | rfl | (intro u_ hu_; simp only [List.mem_cons, List.not_mem_nil, or_false] at hu_; rcases hu_ with rfl | hu_; rfl) | exact byt_cell1 _ | exact cells_one _ | exact wrd_one _ | exact flat_cell1 _); (first | rfl | exact Arr.len _ | (simp; done)); rfl; (intro w_ hq_; (try simp only [List.set_cons_zero, List.set_cons_succ] at hq_); clear HH; have HH := hid hq_; clear hq_))
              | ((with_reducible apply wpL_move); rfl; rfl)
              | ((with_reducible apply wpL_assign); rfl; rfl)
              | ((with_reducible apply wpL_pick); rfl; rfl; rfl)
              | ((with_reducible apply wpL_not); rfl; rfl)
              | ((with_reducible apply wpL_cmp (b := true)); rfl; rfl; rfl; (first | rfl | assumption | (simp only [cmpB, decide_eq_true_eq, decide_eq_false_iff_not, beq_iff_eq, bne_iff_ne, ne_eq, beq_eq_false_iff_ne, bne_eq_false_iff_eq, gt_iff_lt, ge_iff_le]; omega) | (simp; omega)); rfl)
              | ((with_reducible apply wpL_cmp (b := false)); rfl; rfl; rfl; (first | rfl | assumption | (simp only [cmpB, decide_eq_true_eq, decide_eq_false_iff_not, beq_iff_eq, bne_iff_ne, ne_eq, beq_eq_false_iff_ne, bne_eq_false_iff_eq, gt_iff_lt, ge_iff_le]; omega) | (simp; omega)); rfl)
              | ((with_reducible apply wpL_cmp); rfl; rfl; rfl; rfl; rfl)
              | ((with_reducible apply wpL_arith); rfl; rfl; rfl; (exact IntWalk.i64_in _ (by (try simp only [arithI]); omega)); rfl)); (try simp only [arithI, Act.put, Act.eval, List.setIfInBounds_toArray, List.set_cons_succ, List.set_cons_zero, Array.getD_eq_getD_getElem?, List.getElem?_toArray, List.getElem?_cons_succ, List.getElem?_cons_zero, Option.getD_some])))
        go_loopw [9, 11] (PairRel w i x p g3_ g7_ g10_) (fun _ kv _ => p.length - (intOf kv).toNat)
        case atStart => exact ⟨0, x, [], none, 0, Nat.zero_le _, rfl, rfl, rfl, rfl, HH.out.addNil 73 32⟩
        case round =>
          obtain ⟨k, c, r, ao1, cap1, hk, rfl, hck, hrk, rfl, hr⟩ := hrel
          clear HH
          have HH := hid hr
          have HCK := hid hck
          have HRK := hid hrk
          have hrl : r.length = k := by rw [hrk, pairL_len]
          clear hr hck hrk
          by_cases hlt : k < p.length
          · obtain ⟨s, hs⟩ : ∃ s, p.getD k Nd0 = s := ⟨_, rfl⟩
            obtain ⟨ad, cap', e⟩ := HP.out.some (by omega)
            cases e
            have HAR := hid (fun w1 (h1 : ∃ bs, Holds w [] bs [rowA 73 ao1 cap1 r] w1) => get_as (show Arrs w1 (.slice (some ad) p.length cap) p from h1.choose_spec.sl HP.out) hlt (show p[k] = s by rw [← hs]; simp [hlt]))
            have hst := curAt_succ i x p k
            have hst2 := pairL_succ i x p k
            unfold pairA at hst2
            rw [← HCK.out, hs] at hst
            rw [← HRK.out, ← HCK.out, hs] at hst2
            clear hs
            obtain ⟨q, hq1⟩ : ∃ q, i / 2 ^ k = q := ⟨_, rfl⟩
            have hq10' : q ≤ 1024 := by rw [← hq1]; exact Nat.le_trans (Nat.div_le_self _ _) (by omega)
            have HQ1 := hid hq1
            clear hq1
            go_wp2_with (first
              | ((first
                  | ((with_reducible apply wpL_skip); rfl; skip)
                  | ((with_reducible apply wpL_nilCheck); rfl; rfl)
                  | ((with_reducible apply wpL_loadArr (t := 41) kA41 HH.out); rfl; (first | exact .here | exact .there .here | exact .there (.there .here) | exact .there (.there (.there .here)) | exact .there (.there (.there (.there .here))) | exact .there (.there (.there (.there (.there .here)))) | exact .there (.there (.there (.there (.there (.there .here))))) | exact .there (.there (.there (.there (.there (.there (.there .here))))))); rfl)
                  | ((with_reducible apply wpL_loadC (t := 41) kA41 HH.out); rfl; (first | exact .here | exact .there .here | exact .there (.there .here) | exact .there (.there (.there .here)) | exact .there (.there (.there (.there .here))) | exact .there (.there (.there (.there (.there .here)))) | exact .there (.there (.there (.there (.there (.there .here))))) | exact .there (.there (.there (.there (.there (.there (.there .here))))))); (first | rfl | exact Arr.len _ | (simp; done)); rfl)
                  | ((with_reducible apply wpL_loadC (t := 73) kA73 HH.out); rfl; (first | exact .here | exact .there .here | exact .there (.there .here) | exact .there (.there (.there .here)) | exact .there (.there (.there (.there .here))) | exact .there (.there (.there (.there (.there .here)))) | exact .there (.there (.there (.there (.there (.there .here))))) | exact .there (.there (.there (.there (.there (.there (.there .here))))))); (first | rfl | exact Arr.len _ | (simp; done)); rfl)
                  | ((with_reducible apply wpL_len (t := 30) Try.underlying30); rfl; rfl)
                  | ((with_reducible apply wpL_len (t := 98) Try.underlying98); rfl; rfl)
                  | ((with_reducible apply wpL_boxArr (dst := some 3)); rfl; (exact HH.out); rfl; (intro g3_ w_ hq_; (try simp only [List.set_cons_zero, List.set_cons_succ] at hq_); clear HH; have HH := hid hq_; clear hq_))
                  | ((with_reducible apply wpL_allocC (dst := some 7) kZ41 HH.out); rfl; (intro g7_ w_ hq_; (try simp only [List.set_cons_zero, List.set_cons_succ] at hq_); clear HH; have HH := hid hq_; clear hq_))
                  | ((with_reducible apply wpL_allocC (dst := some 10) kZ41 HH.out); rfl; (intro g10_ w_ hq_; (try simp only [List.set_cons_zero, List.set_cons_succ] at hq_); clear HH; have HH := hid hq_; clear hq_))
                  | ((with_reducible apply wpL_allocC (dst := some 12) kZ73 HH.out); rfl; (intro g12_ w_ hq_; (try simp only [List.set_cons_zero, List.set_cons_succ] at hq_); clear HH; have HH := hid hq_; clear hq_))
                  | ((with_reducible apply wpL_storeArr (t := 41) kS41 HH.out); rfl; rfl; (first | exact .here | exact .there .here | exact .there (.there .here) | exact .there (.there (.there .here)) | exact .there (.there (.there (.there .here))) | exact .there (.there (.there (.there (.there .here)))) | exact .there (.there (.there (.there (.there (.there .here))))) | exact .there (.there (.there (.there (.there (.there (.there .here))))))); (first | rfl | exact Arr.len _ | (simp; done)); rfl; (intro w_ hq_; (try simp only [List.set_cons_zero, List.set_cons_succ] at hq_); clear HH; have HH := hid hq_; clear hq_))
                  | ((with_reducible apply wpL_storeC (t := 41)); rfl; rfl; (exact kS41); (exact HH.out); (first | exact .here | exact .there .here | exact .there (.there .here) | exact .there (.there (.there .here)) | exact .there (.there (.there (.there .here))) | exact .there (.there (.there (.there (.there .here)))) | exact .there (.there (.there (.there (.there (.there .here))))) | exact .there (.there (.there (.there (.there (.there (.there .here))))))); (first | rfl | exact Arr.len _ | (simp; done)); (first | rfl | (intro u_ hu_; simp only [List.mem_cons, List.not_mem_nil, or_false] at hu_; rcases hu_ with rfl | hu_; rfl) | exact byt_cell1 _ | exact cells_one _ | exact wrd_one _ | exact flat_cell1 _); (first | rfl | exact Arr.len _ | (simp; done)); rfl; (intro w_ hq_; (try simp only [List.set_cons_zero, List.set_cons_succ] at hq_); clear HH; have HH := hid hq_; clear hq_))
                  | ((with_reducible apply wpL_storeC (t := 73)); rfl; rfl; (exact kS73); (exact HH.out); (first | exact .here | exact .there .here | exact .there (.there .here) | exact .there (.there (.there .here)) | exact .there (.there (.there (.there .here))) | exact .there (.there (.there (.there (.there .here)))) | exact .there (.there (.there (.there (.there (.there .here))))) | exact .there (.there (.there (.there (.there (.there (.there .here))))))); (first | rfl | exact Arr.len _ | (simp; done)); (first | rfl | (intro u_ hu_; simp only [List.mem_cons, List.not_mem_nil, or_false] at hu_; rcases hu_ with rfl | hu_; rfl) | exact byt_cell1 _ | exact cells_one _ | exact wrd_one _ | exact flat_cell1 _); (first | rfl | exact Arr.len _ | (simp; done)); rfl; (intro w_ hq_; (try simp only [List.set_cons_zero, List.set_cons_succ] at hq_); clear HH; have HH := hid hq_; clear hq_))
                  | ((with_reducible apply wpL_move); rfl; rfl)
                  | ((with_reducible apply wpL_assign); rfl; rfl)
                  | ((with_reducible apply wpL_pick); rfl; rfl; rfl)
                  | ((with_reducible apply wpL_not); rfl; rfl)
                  | ((with_reducible apply wpL_cmp (b := true)); rfl; rfl; rfl; (first | rfl | assumption | (simp only [cmpB, decide_eq_true_eq, decide_eq_false_iff_not, beq_iff_eq, bne_iff_ne, ne_eq, beq_eq_false_iff_ne, bne_eq_false_iff_eq, gt_iff_lt, ge_iff_le]; omega) | (simp; omega)); rfl)
                  | ((with_reducible apply wpL_cmp (b := false)); rfl; rfl; rfl; (first | rfl | assumption | (simp only [cmpB, decide_eq_true_eq, decide_eq_false_iff_not, beq_iff_eq, bne_iff_ne, ne_eq, beq_eq_false_iff_ne, bne_eq_false_iff_eq, gt_iff_lt, ge_iff_le]; omega) | (simp; omega)); rfl)
                  | ((with_reducible apply wpL_cmp); rfl; rfl; rfl; rfl; rfl)
                  | ((with_reducible apply wpL_arith); rfl; rfl; rfl; (exact IntWalk.i64_in _ (by (try simp only [arithI]); omega)); rfl)); (try simp only [arithI, Act.put, Act.eval, List.setIfInBounds_toArray, List.set_cons_succ, List.set_cons_zero, Array.getD_eq_getD_getElem?, List.getElem?_toArray, List.getElem?_cons_succ, List.getElem?_cons_zero, Option.getD_some])))
            refine wp_region_F [(fun u_ => u_ = c.val), (fun u_ => u_ = (.slice (some ad) p.length cap)), (fun u_ => u_ = (.int .i64 k)), (fun u_ => u_ = (.pointer (some (ad.add (k * 16))))), (fun u_ => u_ = s.val), (fun u_ => u_ = (jn c s).val), (isPtr), (fun _ => True)] (AJ w [] [(g10_, objC c.cells 41), (g7_, objC Nd0.cells 41), (g3_, objC x.cells 41)] (fun _ _ => [rowA 73 ao1 cap1 r]) 6 7 12 73 (Arr.zero 32).cells (jn c s).cells) (by kernel_rfl) (by kernel_rfl) rfl (HH.out.drew) ?_ ?_
            · refine eachD_cons ?_ (eachD_cons ?_ (eachD_cons ?_ (eachD_cons ?_ (eachD_cons ?_ (eachD_cons ?_ (eachD_cons ?_ (eachD_cons ?_ (eachD_nil))))))))
              · intro li_ a_ w1 hc hi hJ hF hS
                have e10 : a_.eval (.tmp 10) = (.pointer (some ⟨g10_, 0, none⟩)) := (hF.2.2 10 (notDst_of (by kernel_rfl))).trans rfl
                refine wantD (by rfl) ?_
                exact ok_load kA41 hJ e10 (Own.opt .here) (Arr.len _) ⟨hJ, rfl⟩
              · intro li_ a_ w1 hc hi hJ hF hS
                have e2 : a_.eval (.tmp 2) = (.slice (some ad) p.length cap) := (hF.2.2 2 (notDst_of (by kernel_rfl))).trans rfl
                refine wantD (by rfl) ?_
                exact opF_val rfl (ex_move rfl w1) hJ e2
              · intro li_ a_ w1 hc hi hJ hF hS
                have e11 : a_.eval (.tmp 11) = (.int .i64 k) := (hF.2.2 11 (notDst_of (by kernel_rfl))).trans rfl
                refine wantD (by rfl) ?_
                exact opF_val rfl (ex_move rfl w1) hJ e11
              · intro li_ a_ w1 hc hi hJ hF hS
                have l1 : li_ 1 = true := (hS ⟨1, .data⟩ (by simp) rfl).1
                have l2 : li_ 2 = true := (hS ⟨2, .data⟩ (by simp) rfl).1
                have e35 : a_.eval (.tmp 35) = (.slice (some ad) p.length cap) := (hS ⟨1, .data⟩ (by simp) rfl).2 _ rfl
                have e36 : a_.eval (.tmp 36) = (.int .i64 k) := (hS ⟨2, .data⟩ (by simp) rfl).2 _ rfl
                refine wantD (by rfl) ?_
                exact opF_val rfl (ex_index kE30 (j := k) e35 e36 rfl hlt w1) hJ rfl
              · intro li_ a_ w1 hc hi hJ hF hS
                have l3 : li_ 3 = true := (hS ⟨3, .data⟩ (by simp) rfl).1
                have e37 : a_.eval (.tmp 37) = (.pointer (some (ad.add (k * 16)))) := (hS ⟨3, .data⟩ (by simp) rfl).2 _ rfl
                refine wantD (by rfl) ?_
                exact opF_val rfl (ex_load_agg (t := 41) (sz := 16) e37 Try.underlying41 rfl kS41 (Arr.len s) (HAR.out _ ⟨_, hJ⟩)) hJ rfl
              · intro li_ a_ w1 hc hi hJ hF hS
                have l0 : li_ 0 = true := (hS ⟨0, .data⟩ (by simp) rfl).1
                have l4 : li_ 4 = true := (hS ⟨4, .data⟩ (by simp) rfl).1
                have e34 : a_.eval (.tmp 34) = c.val := (hS ⟨0, .data⟩ (by simp) rfl).2 _ rfl
                have e38 : a_.eval (.tmp 38) = s.val := (hS ⟨4, .data⟩ (by simp) rfl).2 _ rfl
                refine wantD (by rfl) ?_
                exact opF_val rfl (ex_build (by show (Instr.build 73 #[(0, a_.eval (.tmp 34)), (1, a_.eval (.tmp 38))]).run Try.prog w1 = _; rw [e34, e38]; exact BP73 c s w1)) hJ rfl
              · intro li_ a_ w1 hc hi hJ hF hS
                refine wantD (by rfl) ?_
                exact aj_alloc kZ73 hJ hi (hc.off (j := 7) (by kernel_rfl) hi) (by decide) (fun _ => rfl)
              · intro li_ a_ w1 hc hi hJ hF hS
                have l6 : li_ 6 = true := (hS ⟨6, .data⟩ (by simp) rfl).1
                have l5 : li_ 5 = true := (hS ⟨5, .data⟩ (by simp) rfl).1
                have l0 : li_ 0 = true := (hS ⟨0, .phase⟩ (by simp) rfl).1
                have l1 : li_ 1 = true := (hS ⟨1, .phase⟩ (by simp) rfl).1
                have l2 : li_ 2 = true := (hS ⟨2, .phase⟩ (by simp) rfl).1
                have l3 : li_ 3 = true := (hS ⟨3, .phase⟩ (by simp) rfl).1
                have l4 : li_ 4 = true := (hS ⟨4, .phase⟩ (by simp) rfl).1
                have e12 : (isPtr) (a_.eval (.tmp 12)) := (hS ⟨6, .data⟩ (by simp) rfl).2 _ rfl
                have e39 : a_.eval (.tmp 39) = (jn c s).val := (hS ⟨5, .data⟩ (by simp) rfl).2 _ rfl
                refine wantD (by rfl) ?_
                exact aj_store kS73 (Arr.len _) (Arr.len _) (cells_one _) hJ l6 hi (by decide) e12 e39 rfl
            intro v0_ h0_ v1_ h1_ v2_ h2_ v3_ h3_ v4_ h4_ v5_ h5_ v6_ h6_ v7_ h7_
            intro wq hq_
            have q_ : v0_ = c.val := h0_; clear h0_; subst q_
            have q_ : v1_ = (.slice (some ad) p.length cap) := h1_; clear h1_; subst q_
            have q_ : v2_ = (.int .i64 k) := h2_; clear h2_; subst q_
            have q_ : v3_ = (.pointer (some (ad.add (k * 16)))) := h3_; clear h3_; subst q_
            have q_ : v4_ = s.val := h4_; clear h4_; subst q_
            have q_ : v5_ = (jn c s).val := h5_; clear h5_; subst q_
            obtain ⟨g12_, rfl⟩ := h6_
            clear h7_
            have HQ := hid hq_; clear hq_
            simp only [putsD, Act.put, List.setIfInBounds_toArray, List.set_cons_succ, List.set_cons_zero]
            have hq2_ : Holds w [] [(g12_, objC (jn c s).cells 73), (g10_, objC c.cells 41), (g7_, objC Nd0.cells 41), (g3_, objC x.cells 41)] [rowA 73 ao1 cap1 r] wq := HQ.out
            clear HH HQ
            have HH := hid hq2_
            clear hq2_
            by_cases hbit : (i / 2 ^ k) % 2 = 1
            · have hpair : pairC i k c s = (s, c) := by unfold pairC; rw [if_pos hbit]
              rw [hpair] at hst hst2
              obtain ⟨c2, hc2⟩ : ∃ c2, joinN ((k : Int) + 1) s c = c2 := ⟨_, rfl⟩
              obtain ⟨r2, hr2⟩ : ∃ r2, r ++ [jn s c] = r2 := ⟨_, rfl⟩
              have HC2 := hid hc2
              have HR2 := hid hr2
              have HST := hid (show c2 = curAt i x p (k + 1) by rw [hst]; exact hc2.symm)
              have HST2 := hid (show r2 = pairL i x p (k + 1) by rw [hst2]; exact hr2.symm)
              have HMOD := hid (show q % 2 = 1 by rw [← HQ1.out]; exact hbit)
              clear hpair hst hst2 hc2 hr2 hbit
              go_wp2_with (first
                | ((first
                    | ((with_reducible apply wpL_skip); rfl; skip)
                    | ((with_reducible apply wpL_shrI (m := i) (k := k) (r := q)); rfl; rfl; rfl; rfl; (exact (by omega)); (exact HQ1.out); rfl)
                    | ((with_reducible apply wpL_remN (m := q) (n := 2)); rfl; rfl; rfl; rfl; (exact (by omega)); (exact (by omega)); (exact (by omega)); rfl; rw [HMOD.out])
                    | ((with_reducible apply wpL_nilCheck); rfl; rfl)
                    | ((with_reducible apply wpL_loadArr (t := 41) kA41 HH.out); rfl; (first | exact .here | exact .there .here | exact .there (.there .here) | exact .there (.there (.there .here)) | exact .there (.there (.there (.there .here))) | exact .there (.there (.there (.there (.there .here)))) | exact .there (.there (.there (.there (.there (.there .here))))) | exact .there (.there (.there (.there (.there (.there (.there .here))))))); rfl)
                    | ((with_reducible apply wpL_loadC (t := 41) kA41 HH.out); rfl; (first | exact .here | exact .there .here | exact .there (.there .here) | exact .there (.there (.there .here)) | exact .there (.there (.there (.there .here))) | exact .there (.there (.there (.there (.there .here)))) | exact .there (.there (.there (.there (.there (.there .here))))) | exact .there (.there (.there (.there (.there (.there (.there .here))))))); (first | rfl | exact Arr.len _ | (simp; done)); rfl)
                    | ((with_reducible apply wpL_loadC (t := 73) kA73 HH.out); rfl; (first | exact .here | exact .there .here | exact .there (.there .here) | exact .there (.there (.there .here)) | exact .there (.there (.there (.there .here))) | exact .there (.there (.there (.there (.there .here)))) | exact .there (.there (.there (.there (.there (.there .here))))) | exact .there (.there (.there (.there (.there (.there (.there .here))))))); (first | rfl | exact Arr.len _ | (simp; done)); rfl)
                    | ((with_reducible apply wpL_len (t := 30) Try.underlying30); rfl; rfl)
                    | ((with_reducible apply wpL_len (t := 98) Try.underlying98); rfl; rfl)
                    | ((with_reducible apply wpL_boxArr (dst := some 3)); rfl; (exact HH.out); rfl; (intro g3_ w_ hq_; (try simp only [List.set_cons_zero, List.set_cons_succ] at hq_); clear HH; have HH := hid hq_; clear hq_))
                    | ((with_reducible apply wpL_allocC (dst := some 7) kZ41 HH.out); rfl; (intro g7_ w_ hq_; (try simp only [List.set_cons_zero, List.set_cons_succ] at hq_); clear HH; have HH := hid hq_; clear hq_))
                    | ((with_reducible apply wpL_allocC (dst := some 10) kZ41 HH.out); rfl; (intro g10_ w_ hq_; (try simp only [List.set_cons_zero, List.set_cons_succ] at hq_); clear HH; have HH := hid hq_; clear hq_))
                    | ((with_reducible apply wpL_allocC (dst := some 12) kZ73 HH.out); rfl; (intro g12_ w_ hq_; (try simp only [List.set_cons_zero, List.set_cons_succ] at hq_); clear HH; have HH := hid hq_; clear hq_))
                    | ((with_reducible apply wpL_storeArr (t := 41) kS41 HH.out); rfl; rfl; (first | exact .here | exact .there .here | exact .there (.there .here) | exact .there (.there (.there .here)) | exact .there (.there (.there (.there .here))) | exact .there (.there (.there (.there (.there .here)))) | exact .there (.there (.there (.there (.there (.there .here))))) | exact .there (.there (.there (.there (.there (.there (.there .here))))))); (first | rfl | exact Arr.len _ | (simp; done)); rfl; (intro w_ hq_; (try simp only [List.set_cons_zero, List.set_cons_succ] at hq_); clear HH; have HH := hid hq_; clear hq_))
                    | ((with_reducible apply wpL_storeC (t := 41)); rfl; rfl; (exact kS41); (exact HH.out); (first | exact .here | exact .there .here | exact .there (.there .here) | exact .there (.there (.there .here)) | exact .there (.there (.there (.there .here))) | exact .there (.there (.there (.there (.there .here)))) | exact .there (.there (.there (.there (.there (.there .here))))) | exact .there (.there (.there (.there (.there (.there (.there .here))))))); (first | rfl | exact Arr.len _ | (simp; done)); (first | rfl | (intro u_ hu_; simp only [List.mem_cons, List.not_mem_nil, or_false] at hu_; rcases hu_ with rfl | hu_; rfl) | exact byt_cell1 _ | exact cells_one _ | exact wrd_one _ | exact flat_cell1 _); (first | rfl | exact Arr.len _ | (simp; done)); rfl; (intro w_ hq_; (try simp only [List.set_cons_zero, List.set_cons_succ] at hq_); clear HH; have HH := hid hq_; clear hq_))
                    | ((with_reducible apply wpL_storeC (t := 73)); rfl; rfl; (exact kS73); (exact HH.out); (first | exact .here | exact .there .here | exact .there (.there .here) | exact .there (.there (.there .here)) | exact .there (.there (.there (.there .here))) | exact .there (.there (.there (.there (.there .here)))) | exact .there (.there (.there (.there (.there (.there .here))))) | exact .there (.there (.there (.there (.there (.there (.there .here))))))); (first | rfl | exact Arr.len _ | (simp; done)); (first | rfl | (intro u_ hu_; simp only [List.mem_cons, List.not_mem_nil, or_false] at hu_; rcases hu_ with rfl | hu_; rfl) | exact byt_cell1 _ | exact cells_one _ | exact wrd_one _ | exact flat_cell1 _); (first | rfl | exact Arr.len _ | (simp; done)); rfl; (intro w_ hq_; (try simp only [List.set_cons_zero, List.set_cons_succ] at hq_); clear HH; have HH := hid hq_; clear hq_))
                    | ((with_reducible apply wpL_move); rfl; rfl)
                    | ((with_reducible apply wpL_assign); rfl; rfl)
                    | ((with_reducible apply wpL_pick); rfl; rfl; rfl)
                    | ((with_reducible apply wpL_not); rfl; rfl)
                    | ((with_reducible apply wpL_cmp (b := true)); rfl; rfl; rfl; (first | rfl | assumption | (simp only [cmpB, decide_eq_true_eq, decide_eq_false_iff_not, beq_iff_eq, bne_iff_ne, ne_eq, beq_eq_false_iff_ne, bne_eq_false_iff_eq, gt_iff_lt, ge_iff_le]; omega) | (simp; omega)); rfl)
                    | ((with_reducible apply wpL_cmp (b := false)); rfl; rfl; rfl; (first | rfl | assumption | (simp only [cmpB, decide_eq_true_eq, decide_eq_false_iff_not, beq_iff_eq, bne_iff_ne, ne_eq, beq_eq_false_iff_ne, bne_eq_false_iff_eq, gt_iff_lt, ge_iff_le]; omega) | (simp; omega)); rfl)
                    | ((with_reducible apply wpL_cmp); rfl; rfl; rfl; rfl; rfl)
                    | ((with_reducible apply wpL_arith); rfl; rfl; rfl; (exact IntWalk.i64_in _ (by (try simp only [arithI]); omega)); rfl)); (try simp only [arithI, Act.put, Act.eval, List.setIfInBounds_toArray, List.set_cons_succ, List.set_cons_zero, Array.getD_eq_getD_getElem?, List.getElem?_toArray, List.getElem?_cons_succ, List.getElem?_cons_zero, Option.getD_some])))
              refine wp_region_tailQ 6 (by kernel_rfl) (by kernel_rfl) (by kernel_rfl) HH.out ?_
              simp only [List.take_succ_cons, List.take_zero, List.drop_succ_cons, List.drop_zero]
              repeat ((first
                | ((with_reducible apply wpQ_skip); rfl; skip)
                | ((with_reducible apply wpQ_index (dst := some 47) kE30 (j := k)); rfl; rfl; rfl; (exact hlt); rfl)
                | ((with_reducible apply wpQ_loadEl (dst := some 48) (v := s) kA41 (fun wq hwq => HAR.out wq ⟨_, hwq⟩)); rfl; rfl)
                | ((with_reducible apply wpQ_build (dst := some 50) (v := (jn s c).val)); (exact BP73 s c); rfl)
                | ((with_reducible apply wpQ_nilCheck); rfl; rfl)
                | ((with_reducible apply wpQ_loadArr (t := 41) kA41); rfl; (first | exact .here | exact .there .here | exact .there (.there .here) | exact .there (.there (.there .here)) | exact .there (.there (.there (.there .here))) | exact .there (.there (.there (.there (.there .here)))) | exact .there (.there (.there (.there (.there (.there .here))))) | exact .there (.there (.there (.there (.there (.there (.there .here))))))); rfl)
                | ((with_reducible apply wpQ_loadC (t := 41) kA41); rfl; (first | exact .here | exact .there .here | exact .there (.there .here) | exact .there (.there (.there .here)) | exact .there (.there (.there (.there .here))) | exact .there (.there (.there (.there (.there .here)))) | exact .there (.there (.there (.there (.there (.there .here))))) | exact .there (.there (.there (.there (.there (.there (.there .here))))))); (first | rfl | exact Arr.len _ | (simp; done)); rfl)
                | ((with_reducible apply wpQ_loadC (t := 73) kA73); rfl; (first | exact .here | exact .there .here | exact .there (.there .here) | exact .there (.there (.there .here)) | exact .there (.there (.there (.there .here))) | exact .there (.there (.there (.there (.there .here)))) | exact .there (.there (.there (.there (.there (.there .here))))) | exact .there (.there (.there (.there (.there (.there (.there .here))))))); (first | rfl | exact Arr.len _ | (simp; done)); rfl)
                | ((with_reducible apply wpQ_len (t := 30) Try.underlying30); rfl; rfl)
                | ((with_reducible apply wpQ_len (t := 98) Try.underlying98); rfl; rfl)
                | ((with_reducible apply wpQ_move); rfl; rfl)
                | ((with_reducible apply wpQ_assign); rfl; rfl)
                | ((with_reducible apply wpQ_pick); rfl; rfl; rfl)
                | ((with_reducible apply wpQ_not); rfl; rfl)
                | ((with_reducible apply wpQ_cmp (b := true)); rfl; rfl; rfl; (first | rfl | assumption | (simp only [cmpB, decide_eq_true_eq, decide_eq_false_iff_not, beq_iff_eq, bne_iff_ne, ne_eq, beq_eq_false_iff_ne, bne_eq_false_iff_eq, gt_iff_lt, ge_iff_le]; omega) | (simp; omega)); rfl)
                | ((with_reducible apply wpQ_cmp (b := false)); rfl; rfl; rfl; (first | rfl | assumption | (simp only [cmpB, decide_eq_true_eq, decide_eq_false_iff_not, beq_iff_eq, bne_iff_ne, ne_eq, beq_eq_false_iff_ne, bne_eq_false_iff_eq, gt_iff_lt, ge_iff_le]; omega) | (simp; omega)); rfl)
                | ((with_reducible apply wpQ_cmp); rfl; rfl; rfl; rfl; rfl)
                | ((with_reducible apply wpQ_arith); rfl; rfl; rfl; (exact IntWalk.i64_in _ (by (try simp only [arithI]); omega)); rfl)); (try simp only [if_true, if_false, Bool.false_eq_true, arithI, Act.put, Act.eval, List.setIfInBounds_toArray, List.set_cons_succ, List.set_cons_zero, Array.getD_eq_getD_getElem?, List.getElem?_toArray, List.getElem?_cons_succ, List.getElem?_cons_zero, Option.getD_some]))
              refine wpQuiet_nil ?_
              intro wq hq_
              have HQ := hid hq_
              clear hq_
              clear HH
              have HH := HQ
              clear HQ
              go_wp2_with (first
                | ((first
                    | ((with_reducible apply wpL_skip); rfl; skip)
                    | ((with_reducible apply wpL_shrI (m := i) (k := k) (r := q)); rfl; rfl; rfl; rfl; (exact (by omega)); (exact HQ1.out); rfl)
                    | ((with_reducible apply wpL_remN (m := q) (n := 2)); rfl; rfl; rfl; rfl; (exact (by omega)); (exact (by omega)); (exact (by omega)); rfl; rw [HMOD.out])
                    | ((with_reducible apply wpL_loadArr (dst := some 52) (t := 73) (v := jn s c) kA73 HH.out); rfl; (exact .here); rfl)
                    | ((with_reducible apply wpL_buildA (dst := some 53) kE98 (jn s c) (by decide)); rfl; (exact HH.out); rfl; (intro gb_ w_ hq_; clear HH; have HH := hid hq_; clear hq_))
                    | ((with_reducible apply wpL_appendA (dst := some 54) (l := r) (l2 := [jn s c]) (r := r2) kE98 HH.out.swap HH.out.sl0 HR2.out); rfl; rfl; (exact (by simp; omega)); rfl; rfl; rfl; (intro ao4 cap4 w_ hq_; clear HH; have HH := hid hq_.dropSnd; clear hq_))
                    | ((with_reducible apply wpL_indexE (dst := some 57) (m := 0) Try.underlying73 kS41 (by decide)); rfl; rfl; rfl; (exact (by decide)); rfl)
                    | ((with_reducible apply wpL_indexE (dst := some 59) (m := 1) Try.underlying73 kS41 (by decide)); rfl; rfl; rfl; (exact (by decide)); rfl)
                    | ((with_reducible apply wpL_loadPA (dst := some 58) (t := 41) (v := s) kA41 HH.out); rfl; (exact .here); (exact jn_fst s c); rfl)
                    | ((with_reducible apply wpL_loadPA (dst := some 60) (t := 41) (v := c) kA41 HH.out); rfl; (exact .here); (exact jn_snd s c); rfl)
                    | (go_at_call 47; (with_reducible refine (joinR_any _ ((k : Int) + 1) s c).mono ?_); rw [HC2.out]; rintro e_ w2_ ⟨rfl, hb_⟩; (have hq_ := HH.out.grow hb_); clear HH; have HH := hid hq_; clear hq_ hb_)
                    | ((with_reducible apply wpL_nilCheck); rfl; rfl)
                    | ((with_reducible apply wpL_loadArr (t := 41) kA41 HH.out); rfl; (first | exact .here | exact .there .here | exact .there (.there .here) | exact .there (.there (.there .here)) | exact .there (.there (.there (.there .here))) | exact .there (.there (.there (.there (.there .here)))) | exact .there (.there (.there (.there (.there (.there .here))))) | exact .there (.there (.there (.there (.there (.there (.there .here))))))); rfl)
                    | ((with_reducible apply wpL_loadC (t := 41) kA41 HH.out); rfl; (first | exact .here | exact .there .here | exact .there (.there .here) | exact .there (.there (.there .here)) | exact .there (.there (.there (.there .here))) | exact .there (.there (.there (.there (.there .here)))) | exact .there (.there (.there (.there (.there (.there .here))))) | exact .there (.there (.there (.there (.there (.there (.there .here))))))); (first | rfl | exact Arr.len _ | (simp; done)); rfl)
                    | ((with_reducible apply wpL_loadC (t := 73) kA73 HH.out); rfl; (first | exact .here | exact .there .here | exact .there (.there .here) | exact .there (.there (.there .here)) | exact .there (.there (.there (.there .here))) | exact .there (.there (.there (.there (.there .here)))) | exact .there (.there (.there (.there (.there (.there .here))))) | exact .there (.there (.there (.there (.there (.there (.there .here))))))); (first | rfl | exact Arr.len _ | (simp; done)); rfl)
                    | ((with_reducible apply wpL_len (t := 30) Try.underlying30); rfl; rfl)
                    | ((with_reducible apply wpL_len (t := 98) Try.underlying98); rfl; rfl)
                    | ((with_reducible apply wpL_boxArr (dst := some 3)); rfl; (exact HH.out); rfl; (intro g3_ w_ hq_; (try simp only [List.set_cons_zero, List.set_cons_succ] at hq_); clear HH; have HH := hid hq_; clear hq_))
                    | ((with_reducible apply wpL_allocC (dst := some 7) kZ41 HH.out); rfl; (intro g7_ w_ hq_; (try simp only [List.set_cons_zero, List.set_cons_succ] at hq_); clear HH; have HH := hid hq_; clear hq_))
                    | ((with_reducible apply wpL_allocC (dst := some 10) kZ41 HH.out); rfl; (intro g10_ w_ hq_; (try simp only [List.set_cons_zero, List.set_cons_succ] at hq_); clear HH; have HH := hid hq_; clear hq_))
                    | ((with_reducible apply wpL_allocC (dst := some 12) kZ73 HH.out); rfl; (intro g12_ w_ hq_; (try simp only [List.set_cons_zero, List.set_cons_succ] at hq_); clear HH; have HH := hid hq_; clear hq_))
                    | ((with_reducible apply wpL_storeArr (t := 41) kS41 HH.out); rfl; rfl; (first | exact .here | exact .there .here | exact .there (.there .here) | exact .there (.there (.there .here)) | exact .there (.there (.there (.there .here))) | exact .there (.there (.there (.there (.there .here)))) | exact .there (.there (.there (.there (.there (.there .here))))) | exact .there (.there (.there (.there (.there (.there (.there .here))))))); (first | rfl | exact Arr.len _ | (simp; done)); rfl; (intro w_ hq_; (try simp only [List.set_cons_zero, List.set_cons_succ] at hq_); clear HH; have HH := hid hq_; clear hq_))
                    | ((with_reducible apply wpL_storeC (t := 41)); rfl; rfl; (exact kS41); (exact HH.out); (first | exact .here | exact .there .here | exact .there (.there .here) | exact .there (.there (.there .here)) | exact .there (.there (.there (.there .here))) | exact .there (.there (.there (.there (.there .here)))) | exact .there (.there (.there (.there (.there (.there .here))))) | exact .there (.there (.there (.there (.there (.there (.there .here))))))); (first | rfl | exact Arr.len _ | (simp; done)); (first | rfl | (intro u_ hu_; simp only [List.mem_cons, List.not_mem_nil, or_false] at hu_; rcases hu_ with rfl | hu_; rfl) | exact byt_cell1 _ | exact cells_one _ | exact wrd_one _ | exact flat_cell1 _); (first | rfl | exact Arr.len _ | (simp; done)); rfl; (intro w_ hq_; (try simp only [List.set_cons_zero, List.set_cons_succ] at hq_); clear HH; have HH := hid hq_; clear hq_))
                    | ((with_reducible apply wpL_storeC (t := 73)); rfl; rfl; (exact kS73); (exact HH.out); (first | exact .here | exact .there .here | exact .there (.there .here) | exact .there (.there (.there .here)) | exact .there (.there (.there (.there .here))) | exact .there (.there (.there (.there (.there .here)))) | exact .there (.there (.there (.there (.there (.there .here))))) | exact .there (.there (.there (.there (.there (.there (.there .here))))))); (first | rfl | exact Arr.len _ | (simp; done)); (first | rfl | (intro u_ hu_; simp only [List.mem_cons, List.not_mem_nil, or_false] at hu_; rcases hu_ with rfl | hu_; rfl) | exact byt_cell1 _ | exact cells_one _ | exact wrd_one _ | exact flat_cell1 _); (first | rfl | exact Arr.len _ | (simp; done)); rfl; (intro w_ hq_; (try simp only [List.set_cons_zero, List.set_cons_succ] at hq_); clear HH; have HH := hid hq_; clear hq_))
                    | ((with_reducible apply wpL_move); rfl; rfl)
                    | ((with_reducible apply wpL_assign); rfl; rfl)
                    | ((with_reducible apply wpL_pick); rfl; rfl; rfl)
                    | ((with_reducible apply wpL_not); rfl; rfl)
                    | ((with_reducible apply wpL_cmp (b := true)); rfl; rfl; rfl; (first | rfl | assumption | (simp only [cmpB, decide_eq_true_eq, decide_eq_false_iff_not, beq_iff_eq, bne_iff_ne, ne_eq, beq_eq_false_iff_ne, bne_eq_false_iff_eq, gt_iff_lt, ge_iff_le]; omega) | (simp; omega)); rfl)
                    | ((with_reducible apply wpL_cmp (b := false)); rfl; rfl; rfl; (first | rfl | assumption | (simp only [cmpB, decide_eq_true_eq, decide_eq_false_iff_not, beq_iff_eq, bne_iff_ne, ne_eq, beq_eq_false_iff_ne, bne_eq_false_iff_eq, gt_iff_lt, ge_iff_le]; omega) | (simp; omega)); rfl)
                    | ((with_reducible apply wpL_cmp); rfl; rfl; rfl; rfl; rfl)
                    | ((with_reducible apply wpL_arith); rfl; rfl; rfl; (exact IntWalk.i64_in _ (by (try simp only [arithI]); omega)); rfl)); (try simp only [arithI, Act.put, Act.eval, List.setIfInBounds_toArray, List.set_cons_succ, List.set_cons_zero, Array.getD_eq_getD_getElem?, List.getElem?_toArray, List.getElem?_cons_succ, List.getElem?_cons_zero, Option.getD_some])))
              go_roundw
              case rel => exact ⟨k + 1, c2, r2, _, _, by omega, by go_num, HST.out, HST2.out, rfl, HH.out.dropBlk⟩
              case measure => simp [intOf]; omega
            · have hpair : pairC i k c s = (c, s) := by unfold pairC; rw [if_neg hbit]
              rw [hpair] at hst hst2
              obtain ⟨c2, hc2⟩ : ∃ c2, joinN ((k : Int) + 1) c s = c2 := ⟨_, rfl⟩
              obtain ⟨r2, hr2⟩ : ∃ r2, r ++ [jn c s] = r2 := ⟨_, rfl⟩
              have HC2 := hid hc2
              have HR2 := hid hr2
              have HST := hid (show c2 = curAt i x p (k + 1) by rw [hst]; exact hc2.symm)
              have HST2 := hid (show r2 = pairL i x p (k + 1) by rw [hst2]; exact hr2.symm)
              have HMOD := hid (show q % 2 = 0 by rw [← HQ1.out]; omega)
              clear hpair hst hst2 hc2 hr2 hbit
              go_wp2_with (first
                | ((first
                    | ((with_reducible apply wpL_skip); rfl; skip)
                    | ((with_reducible apply wpL_shrI (m := i) (k := k) (r := q)); rfl; rfl; rfl; rfl; (exact (by omega)); (exact HQ1.out); rfl)
                    | ((with_reducible apply wpL_remN (m := q) (n := 2)); rfl; rfl; rfl; rfl; (exact (by omega)); (exact (by omega)); (exact (by omega)); rfl; rw [HMOD.out])
                    | ((with_reducible apply wpL_loadArr (dst := some 52) (t := 73) (v := jn c s) kA73 HH.out); rfl; (exact .here); rfl)
                    | ((with_reducible apply wpL_buildA (dst := some 53) kE98 (jn c s) (by decide)); rfl; (exact HH.out); rfl; (intro gb_ w_ hq_; clear HH; have HH := hid hq_; clear hq_))
                    | ((with_reducible apply wpL_appendA (dst := some 54) (l := r) (l2 := [jn c s]) (r := r2) kE98 HH.out.swap HH.out.sl0 HR2.out); rfl; rfl; (exact (by simp; omega)); rfl; rfl; rfl; (intro ao4 cap4 w_ hq_; clear HH; have HH := hid hq_.dropSnd; clear hq_))
                    | ((with_reducible apply wpL_indexE (dst := some 57) (m := 0) Try.underlying73 kS41 (by decide)); rfl; rfl; rfl; (exact (by decide)); rfl)
                    | ((with_reducible apply wpL_indexE (dst := some 59) (m := 1) Try.underlying73 kS41 (by decide)); rfl; rfl; rfl; (exact (by decide)); rfl)
                    | ((with_reducible apply wpL_loadPA (dst := some 58) (t := 41) (v := c) kA41 HH.out); rfl; (exact .here); (exact jn_fst c s); rfl)
                    | ((with_reducible apply wpL_loadPA (dst := some 60) (t := 41) (v := s) kA41 HH.out); rfl; (exact .here); (exact jn_snd c s); rfl)
                    | (go_at_call 47; (with_reducible refine (joinR_any _ ((k : Int) + 1) c s).mono ?_); rw [HC2.out]; rintro e_ w2_ ⟨rfl, hb_⟩; (have hq_ := HH.out.grow hb_); clear HH; have HH := hid hq_; clear hq_ hb_)
                    | ((with_reducible apply wpL_nilCheck); rfl; rfl)
                    | ((with_reducible apply wpL_loadArr (t := 41) kA41 HH.out); rfl; (first | exact .here | exact .there .here | exact .there (.there .here) | exact .there (.there (.there .here)) | exact .there (.there (.there (.there .here))) | exact .there (.there (.there (.there (.there .here)))) | exact .there (.there (.there (.there (.there (.there .here))))) | exact .there (.there (.there (.there (.there (.there (.there .here))))))); rfl)
                    | ((with_reducible apply wpL_loadC (t := 41) kA41 HH.out); rfl; (first | exact .here | exact .there .here | exact .there (.there .here) | exact .there (.there (.there .here)) | exact .there (.there (.there (.there .here))) | exact .there (.there (.there (.there (.there .here)))) | exact .there (.there (.there (.there (.there (.there .here))))) | exact .there (.there (.there (.there (.there (.there (.there .here))))))); (first | rfl | exact Arr.len _ | (simp; done)); rfl)
                    | ((with_reducible apply wpL_loadC (t := 73) kA73 HH.out); rfl; (first | exact .here | exact .there .here | exact .there (.there .here) | exact .there (.there (.there .here)) | exact .there (.there (.there (.there .here))) | exact .there (.there (.there (.there (.there .here)))) | exact .there (.there (.there (.there (.there (.there .here))))) | exact .there (.there (.there (.there (.there (.there (.there .here))))))); (first | rfl | exact Arr.len _ | (simp; done)); rfl)
                    | ((with_reducible apply wpL_len (t := 30) Try.underlying30); rfl; rfl)
                    | ((with_reducible apply wpL_len (t := 98) Try.underlying98); rfl; rfl)
                    | ((with_reducible apply wpL_boxArr (dst := some 3)); rfl; (exact HH.out); rfl; (intro g3_ w_ hq_; (try simp only [List.set_cons_zero, List.set_cons_succ] at hq_); clear HH; have HH := hid hq_; clear hq_))
                    | ((with_reducible apply wpL_allocC (dst := some 7) kZ41 HH.out); rfl; (intro g7_ w_ hq_; (try simp only [List.set_cons_zero, List.set_cons_succ] at hq_); clear HH; have HH := hid hq_; clear hq_))
                    | ((with_reducible apply wpL_allocC (dst := some 10) kZ41 HH.out); rfl; (intro g10_ w_ hq_; (try simp only [List.set_cons_zero, List.set_cons_succ] at hq_); clear HH; have HH := hid hq_; clear hq_))
                    | ((with_reducible apply wpL_allocC (dst := some 12) kZ73 HH.out); rfl; (intro g12_ w_ hq_; (try simp only [List.set_cons_zero, List.set_cons_succ] at hq_); clear HH; have HH := hid hq_; clear hq_))
                    | ((with_reducible apply wpL_storeArr (t := 41) kS41 HH.out); rfl; rfl; (first | exact .here | exact .there .here | exact .there (.there .here) | exact .there (.there (.there .here)) | exact .there (.there (.there (.there .here))) | exact .there (.there (.there (.there (.there .here)))) | exact .there (.there (.there (.there (.there (.there .here))))) | exact .there (.there (.there (.there (.there (.there (.there .here))))))); (first | rfl | exact Arr.len _ | (simp; done)); rfl; (intro w_ hq_; (try simp only [List.set_cons_zero, List.set_cons_succ] at hq_); clear HH; have HH := hid hq_; clear hq_))
                    | ((with_reducible apply wpL_storeC (t := 41)); rfl; rfl; (exact kS41); (exact HH.out); (first | exact .here | exact .there .here | exact .there (.there .here) | exact .there (.there (.there .here)) | exact .there (.there (.there (.there .here))) | exact .there (.there (.there (.there (.there .here)))) | exact .there (.there (.there (.there (.there (.there .here))))) | exact .there (.there (.there (.there (.there (.there (.there .here))))))); (first | rfl | exact Arr.len _ | (simp; done)); (first | rfl | (intro u_ hu_; simp only [List.mem_cons, List.not_mem_nil, or_false] at hu_; rcases hu_ with rfl | hu_; rfl) | exact byt_cell1 _ | exact cells_one _ | exact wrd_one _ | exact flat_cell1 _); (first | rfl | exact Arr.len _ | (simp; done)); rfl; (intro w_ hq_; (try simp only [List.set_cons_zero, List.set_cons_succ] at hq_); clear HH; have HH := hid hq_; clear hq_))
                    | ((with_reducible apply wpL_storeC (t := 73)); rfl; rfl; (exact kS73); (exact HH.out); (first | exact .here | exact .there .here | exact .there (.there .here) | exact .there (.there (.there .here)) | exact .there (.there (.there (.there .here))) | exact .there (.there (.there (.there (.there .here)))) | exact .there (.there (.there (.there (.there (.there .here))))) | exact .there (.there (.there (.there (.there (.there (.there .here))))))); (first | rfl | exact Arr.len _ | (simp; done)); (first | rfl | (intro u_ hu_; simp only [List.mem_cons, List.not_mem_nil, or_false] at hu_; rcases hu_ with rfl | hu_; rfl) | exact byt_cell1 _ | exact cells_one _ | exact wrd_one _ | exact flat_cell1 _); (first | rfl | exact Arr.len _ | (simp; done)); rfl; (intro w_ hq_; (try simp only [List.set_cons_zero, List.set_cons_succ] at hq_); clear HH; have HH := hid hq_; clear hq_))
                    | ((with_reducible apply wpL_move); rfl; rfl)
                    | ((with_reducible apply wpL_assign); rfl; rfl)
                    | ((with_reducible apply wpL_pick); rfl; rfl; rfl)
                    | ((with_reducible apply wpL_not); rfl; rfl)
                    | ((with_reducible apply wpL_cmp (b := true)); rfl; rfl; rfl; (first | rfl | assumption | (simp only [cmpB, decide_eq_true_eq, decide_eq_false_iff_not, beq_iff_eq, bne_iff_ne, ne_eq, beq_eq_false_iff_ne, bne_eq_false_iff_eq, gt_iff_lt, ge_iff_le]; omega) | (simp; omega)); rfl)
                    | ((with_reducible apply wpL_cmp (b := false)); rfl; rfl; rfl; (first | rfl | assumption | (simp only [cmpB, decide_eq_true_eq, decide_eq_false_iff_not, beq_iff_eq, bne_iff_ne, ne_eq, beq_eq_false_iff_ne, bne_eq_false_iff_eq, gt_iff_lt, ge_iff_le]; omega) | (simp; omega)); rfl)
                    | ((with_reducible apply wpL_cmp); rfl; rfl; rfl; rfl; rfl)
                    | ((with_reducible apply wpL_arith); rfl; rfl; rfl; (exact IntWalk.i64_in _ (by (try simp only [arithI]); omega)); rfl)); (try simp only [arithI, Act.put, Act.eval, List.setIfInBounds_toArray, List.set_cons_succ, List.set_cons_zero, Array.getD_eq_getD_getElem?, List.getElem?_toArray, List.getElem?_cons_succ, List.getElem?_cons_zero, Option.getD_some])))
              go_roundw
              case rel => exact ⟨k + 1, c2, r2, _, _, by omega, by go_num, HST.out, HST2.out, rfl, HH.out.dropBlk⟩
              case measure => simp [intOf]; omega
          · obtain rfl : k = p.length := by omega
            have HCD := hid (HCK.out.trans HD.out)
            have HRP := hid (HRK.out.trans HPS.out)
            go_wp2_with (first
              | ((first
                  | ((with_reducible apply wpL_skip); rfl; skip)
                  | ((with_reducible apply wpL_nilCheck); rfl; rfl)
                  | ((with_reducible apply wpL_loadArr (t := 41) kA41 HH.out); rfl; (first | exact .here | exact .there .here | exact .there (.there .here) | exact .there (.there (.there .here)) | exact .there (.there (.there (.there .here))) | exact .there (.there (.there (.there (.there .here)))) | exact .there (.there (.there (.there (.there (.there .here))))) | exact .there (.there (.there (.there (.there (.there (.there .here))))))); rfl)
                  | ((with_reducible apply wpL_loadC (t := 41) kA41 HH.out); rfl; (first | exact .here | exact .there .here | exact .there (.there .here) | exact .there (.there (.there .here)) | exact .there (.there (.there (.there .here))) | exact .there (.there (.there (.there (.there .here)))) | exact .there (.there (.there (.there (.there (.there .here))))) | exact .there (.there (.there (.there (.there (.there (.there .here))))))); (first | rfl | exact Arr.len _ | (simp; done)); rfl)
                  | ((with_reducible apply wpL_loadC (t := 73) kA73 HH.out); rfl; (first | exact .here | exact .there .here | exact .there (.there .here) | exact .there (.there (.there .here)) | exact .there (.there (.there (.there .here))) | exact .there (.there (.there (.there (.there .here)))) | exact .there (.there (.there (.there (.there (.there .here))))) | exact .there (.there (.there (.there (.there (.there (.there .here))))))); (first | rfl | exact Arr.len _ | (simp; done)); rfl)
                  | ((with_reducible apply wpL_len (t := 30) Try.underlying30); rfl; rfl)
                  | ((with_reducible apply wpL_len (t := 98) Try.underlying98); rfl; rfl)
                  | ((with_reducible apply wpL_boxArr (dst := some 3)); rfl; (exact HH.out); rfl; (intro g3_ w_ hq_; (try simp only [List.set_cons_zero, List.set_cons_succ] at hq_); clear HH; have HH := hid hq_; clear hq_))
                  | ((with_reducible apply wpL_allocC (dst := some 7) kZ41 HH.out); rfl; (intro g7_ w_ hq_; (try simp only [List.set_cons_zero, List.set_cons_succ] at hq_); clear HH; have HH := hid hq_; clear hq_))
                  | ((with_reducible apply wpL_allocC (dst := some 10) kZ41 HH.out); rfl; (intro g10_ w_ hq_; (try simp only [List.set_cons_zero, List.set_cons_succ] at hq_); clear HH; have HH := hid hq_; clear hq_))
                  | ((with_reducible apply wpL_allocC (dst := some 12) kZ73 HH.out); rfl; (intro g12_ w_ hq_; (try simp only [List.set_cons_zero, List.set_cons_succ] at hq_); clear HH; have HH := hid hq_; clear hq_))
                  | ((with_reducible apply wpL_storeArr (t := 41) kS41 HH.out); rfl; rfl; (first | exact .here | exact .there .here | exact .there (.there .here) | exact .there (.there (.there .here)) | exact .there (.there (.there (.there .here))) | exact .there (.there (.there (.there (.there .here)))) | exact .there (.there (.there (.there (.there (.there .here))))) | exact .there (.there (.there (.there (.there (.there (.there .here))))))); (first | rfl | exact Arr.len _ | (simp; done)); rfl; (intro w_ hq_; (try simp only [List.set_cons_zero, List.set_cons_succ] at hq_); clear HH; have HH := hid hq_; clear hq_))
                  | ((with_reducible apply wpL_storeC (t := 41)); rfl; rfl; (exact kS41); (exact HH.out); (first | exact .here | exact .there .here | exact .there (.there .here) | exact .there (.there (.there .here)) | exact .there (.there (.there (.there .here))) | exact .there (.there (.there (.there (.there .here)))) | exact .there (.there (.there (.there (.there (.there .here))))) | exact .there (.there (.there (.there (.there (.there (.there .here))))))); (first | rfl | exact Arr.len _ | (simp; done)); (first | rfl | (intro u_ hu_; simp only [List.mem_cons, List.not_mem_nil, or_false] at hu_; rcases hu_ with rfl | hu_; rfl) | exact byt_cell1 _ | exact cells_one _ | exact wrd_one _ | exact flat_cell1 _); (first | rfl | exact Arr.len _ | (simp; done)); rfl; (intro w_ hq_; (try simp only [List.set_cons_zero, List.set_cons_succ] at hq_); clear HH; have HH := hid hq_; clear hq_))
                  | ((with_reducible apply wpL_storeC (t := 73)); rfl; rfl; (exact kS73); (exact HH.out); (first | exact .here | exact .there .here | exact .there (.there .here) | exact .there (.there (.there .here)) | exact .there (.there (.there (.there .here))) | exact .there (.there (.there (.there (.there .here)))) | exact .there (.there (.there (.there (.there (.there .here))))) | exact .there (.there (.there (.there (.there (.there (.there .here))))))); (first | rfl | exact Arr.len _ | (simp; done)); (first | rfl | (intro u_ hu_; simp only [List.mem_cons, List.not_mem_nil, or_false] at hu_; rcases hu_ with rfl | hu_; rfl) | exact byt_cell1 _ | exact cells_one _ | exact wrd_one _ | exact flat_cell1 _); (first | rfl | exact Arr.len _ | (simp; done)); rfl; (intro w_ hq_; (try simp only [List.set_cons_zero, List.set_cons_succ] at hq_); clear HH; have HH := hid hq_; clear hq_))
                  | ((with_reducible apply wpL_move); rfl; rfl)
                  | ((with_reducible apply wpL_assign); rfl; rfl)
                  | ((with_reducible apply wpL_pick); rfl; rfl; rfl)
                  | ((with_reducible apply wpL_not); rfl; rfl)
                  | ((with_reducible apply wpL_cmp (b := true)); rfl; rfl; rfl; (first | rfl | assumption | (simp only [cmpB, decide_eq_true_eq, decide_eq_false_iff_not, beq_iff_eq, bne_iff_ne, ne_eq, beq_eq_false_iff_ne, bne_eq_false_iff_eq, gt_iff_lt, ge_iff_le]; omega) | (simp; omega)); rfl)
                  | ((with_reducible apply wpL_cmp (b := false)); rfl; rfl; rfl; (first | rfl | assumption | (simp only [cmpB, decide_eq_true_eq, decide_eq_false_iff_not, beq_iff_eq, bne_iff_ne, ne_eq, beq_eq_false_iff_ne, bne_eq_false_iff_eq, gt_iff_lt, ge_iff_le]; omega) | (simp; omega)); rfl)
                  | ((with_reducible apply wpL_cmp); rfl; rfl; rfl; rfl; rfl)
                  | ((with_reducible apply wpL_arith); rfl; rfl; rfl; (exact IntWalk.i64_in _ (by (try simp only [arithI]); omega)); rfl)); (try simp only [arithI, Act.put, Act.eval, List.setIfInBounds_toArray, List.set_cons_succ, List.set_cons_zero, Array.getD_eq_getD_getElem?, List.getElem?_toArray, List.getElem?_cons_succ, List.getElem?_cons_zero, Option.getD_some])))
            refine wp_region_tailQ 3 (by kernel_rfl) (by kernel_rfl) (by kernel_rfl) HH.out ?_
            simp only [List.take_succ_cons, List.take_zero, List.drop_succ_cons, List.drop_zero]
            repeat ((first
              | ((with_reducible apply wpQ_skip); rfl; skip)
              | ((with_reducible apply wpQ_nilCheck); rfl; rfl)
              | ((with_reducible apply wpQ_loadArr (t := 41) kA41); rfl; (first | exact .here | exact .there .here | exact .there (.there .here) | exact .there (.there (.there .here)) | exact .there (.there (.there (.there .here))) | exact .there (.there (.there (.there (.there .here)))) | exact .there (.there (.there (.there (.there (.there .here))))) | exact .there (.there (.there (.there (.there (.there (.there .here))))))); rfl)
              | ((with_reducible apply wpQ_loadC (t := 41) kA41); rfl; (first | exact .here | exact .there .here | exact .there (.there .here) | exact .there (.there (.there .here)) | exact .there (.there (.there (.there .here))) | exact .there (.there (.there (.there (.there .here)))) | exact .there (.there (.there (.there (.there (.there .here))))) | exact .there (.there (.there (.there (.there (.there (.there .here))))))); (first | rfl | exact Arr.len _ | (simp; done)); rfl)
              | ((with_reducible apply wpQ_loadC (t := 73) kA73); rfl; (first | exact .here | exact .there .here | exact .there (.there .here) | exact .there (.there (.there .here)) | exact .there (.there (.there (.there .here))) | exact .there (.there (.there (.there (.there .here)))) | exact .there (.there (.there (.there (.there (.there .here))))) | exact .there (.there (.there (.there (.there (.there (.there .here))))))); (first | rfl | exact Arr.len _ | (simp; done)); rfl)
              | ((with_reducible apply wpQ_len (t := 30) Try.underlying30); rfl; rfl)
              | ((with_reducible apply wpQ_len (t := 98) Try.underlying98); rfl; rfl)
              | ((with_reducible apply wpQ_move); rfl; rfl)
              | ((with_reducible apply wpQ_assign); rfl; rfl)
              | ((with_reducible apply wpQ_pick); rfl; rfl; rfl)
              | ((with_reducible apply wpQ_not); rfl; rfl)
              | ((with_reducible apply wpQ_cmp (b := true)); rfl; rfl; rfl; (first | rfl | assumption | (simp only [cmpB, decide_eq_true_eq, decide_eq_false_iff_not, beq_iff_eq, bne_iff_ne, ne_eq, beq_eq_false_iff_ne, bne_eq_false_iff_eq, gt_iff_lt, ge_iff_le]; omega) | (simp; omega)); rfl)
              | ((with_reducible apply wpQ_cmp (b := false)); rfl; rfl; rfl; (first | rfl | assumption | (simp only [cmpB, decide_eq_true_eq, decide_eq_false_iff_not, beq_iff_eq, bne_iff_ne, ne_eq, beq_eq_false_iff_ne, bne_eq_false_iff_eq, gt_iff_lt, ge_iff_le]; omega) | (simp; omega)); rfl)
              | ((with_reducible apply wpQ_cmp); rfl; rfl; rfl; rfl; rfl)
              | ((with_reducible apply wpQ_arith); rfl; rfl; rfl; (exact IntWalk.i64_in _ (by (try simp only [arithI]); omega)); rfl)); (try simp only [if_true, if_false, Bool.false_eq_true, arithI, Act.put, Act.eval, List.setIfInBounds_toArray, List.set_cons_succ, List.set_cons_zero, Array.getD_eq_getD_getElem?, List.getElem?_toArray, List.getElem?_cons_succ, List.getElem?_cons_zero, Option.getD_some]))
            refine wpQuiet_nil ?_
            intro wq hq_
            have HQ := hid hq_
            clear hq_
            clear HH
            have HH := HQ
            clear HQ
            go_wp2_with (first
              | ((first
                  | ((with_reducible apply wpL_skip); rfl; skip)
                  | ((with_reducible apply wpL_nilCheck); rfl; rfl)
                  | ((with_reducible apply wpL_loadArr (t := 41) kA41 HH.out); rfl; (first | exact .here | exact .there .here | exact .there (.there .here) | exact .there (.there (.there .here)) | exact .there (.there (.there (.there .here))) | exact .there (.there (.there (.there (.there .here)))) | exact .there (.there (.there (.there (.there (.there .here))))) | exact .there (.there (.there (.there (.there (.there (.there .here))))))); rfl)
                  | ((with_reducible apply wpL_loadC (t := 41) kA41 HH.out); rfl; (first | exact .here | exact .there .here | exact .there (.there .here) | exact .there (.there (.there .here)) | exact .there (.there (.there (.there .here))) | exact .there (.there (.there (.there (.there .here)))) | exact .there (.there (.there (.there (.there (.there .here))))) | exact .there (.there (.there (.there (.there (.there (.there .here))))))); (first | rfl | exact Arr.len _ | (simp; done)); rfl)
                  | ((with_reducible apply wpL_loadC (t := 73) kA73 HH.out); rfl; (first | exact .here | exact .there .here | exact .there (.there .here) | exact .there (.there (.there .here)) | exact .there (.there (.there (.there .here))) | exact .there (.there (.there (.there (.there .here)))) | exact .there (.there (.there (.there (.there (.there .here))))) | exact .there (.there (.there (.there (.there (.there (.there .here))))))); (first | rfl | exact Arr.len _ | (simp; done)); rfl)
                  | ((with_reducible apply wpL_len (t := 30) Try.underlying30); rfl; rfl)
                  | ((with_reducible apply wpL_len (t := 98) Try.underlying98); rfl; rfl)
                  | ((with_reducible apply wpL_boxArr (dst := some 3)); rfl; (exact HH.out); rfl; (intro g3_ w_ hq_; (try simp only [List.set_cons_zero, List.set_cons_succ] at hq_); clear HH; have HH := hid hq_; clear hq_))
                  | ((with_reducible apply wpL_allocC (dst := some 7) kZ41 HH.out); rfl; (intro g7_ w_ hq_; (try simp only [List.set_cons_zero, List.set_cons_succ] at hq_); clear HH; have HH := hid hq_; clear hq_))
                  | ((with_reducible apply wpL_allocC (dst := some 10) kZ41 HH.out); rfl; (intro g10_ w_ hq_; (try simp only [List.set_cons_zero, List.set_cons_succ] at hq_); clear HH; have HH := hid hq_; clear hq_))
                  | ((with_reducible apply wpL_allocC (dst := some 12) kZ73 HH.out); rfl; (intro g12_ w_ hq_; (try simp only [List.set_cons_zero, List.set_cons_succ] at hq_); clear HH; have HH := hid hq_; clear hq_))
                  | ((with_reducible apply wpL_storeArr (t := 41) kS41 HH.out); rfl; rfl; (first | exact .here | exact .there .here | exact .there (.there .here) | exact .there (.there (.there .here)) | exact .there (.there (.there (.there .here))) | exact .there (.there (.there (.there (.there .here)))) | exact .there (.there (.there (.there (.there (.there .here))))) | exact .there (.there (.there (.there (.there (.there (.there .here))))))); (first | rfl | exact Arr.len _ | (simp; done)); rfl; (intro w_ hq_; (try simp only [List.set_cons_zero, List.set_cons_succ] at hq_); clear HH; have HH := hid hq_; clear hq_))
                  | ((with_reducible apply wpL_storeC (t := 41)); rfl; rfl; (exact kS41); (exact HH.out); (first | exact .here | exact .there .here | exact .there (.there .here) | exact .there (.there (.there .here)) | exact .there (.there (.there (.there .here))) | exact .there (.there (.there (.there (.there .here)))) | exact .there (.there (.there (.there (.there (.there .here))))) | exact .there (.there (.there (.there (.there (.there (.there .here))))))); (first | rfl | exact Arr.len _ | (simp; done)); (first | rfl | (intro u_ hu_; simp only [List.mem_cons, List.not_mem_nil, or_false] at hu_; rcases hu_ with rfl | hu_; rfl) | exact byt_cell1 _ | exact cells_one _ | exact wrd_one _ | exact flat_cell1 _); (first | rfl | exact Arr.len _ | (simp; done)); rfl; (intro w_ hq_; (try simp only [List.set_cons_zero, List.set_cons_succ] at hq_); clear HH; have HH := hid hq_; clear hq_))
                  | ((with_reducible apply wpL_storeC (t := 73)); rfl; rfl; (exact kS73); (exact HH.out); (first | exact .here | exact .there .here | exact .there (.there .here) | exact .there (.there (.there .here)) | exact .there (.there (.there (.there .here))) | exact .there (.there (.there (.there (.there .here)))) | exact .there (.there (.there (.there (.there (.there .here))))) | exact .there (.there (.there (.there (.there (.there (.there .here))))))); (first | rfl | exact Arr.len _ | (simp; done)); (first | rfl | (intro u_ hu_; simp only [List.mem_cons, List.not_mem_nil, or_false] at hu_; rcases hu_ with rfl | hu_; rfl) | exact byt_cell1 _ | exact cells_one _ | exact wrd_one _ | exact flat_cell1 _); (first | rfl | exact Arr.len _ | (simp; done)); rfl; (intro w_ hq_; (try simp only [List.set_cons_zero, List.set_cons_succ] at hq_); clear HH; have HH := hid hq_; clear hq_))
                  | ((with_reducible apply wpL_move); rfl; rfl)
                  | ((with_reducible apply wpL_assign); rfl; rfl)
                  | ((with_reducible apply wpL_pick); rfl; rfl; rfl)
                  | ((with_reducible apply wpL_not); rfl; rfl)
                  | ((with_reducible apply wpL_cmp (b := true)); rfl; rfl; rfl; (first | rfl | assumption | (simp only [cmpB, decide_eq_true_eq, decide_eq_false_iff_not, beq_iff_eq, bne_iff_ne, ne_eq, beq_eq_false_iff_ne, bne_eq_false_iff_eq, gt_iff_lt, ge_iff_le]; omega) | (simp; omega)); rfl)
                  | ((with_reducible apply wpL_cmp (b := false)); rfl; rfl; rfl; (first | rfl | assumption | (simp only [cmpB, decide_eq_true_eq, decide_eq_false_iff_not, beq_iff_eq, bne_iff_ne, ne_eq, beq_eq_false_iff_ne, bne_eq_false_iff_eq, gt_iff_lt, ge_iff_le]; omega) | (simp; omega)); rfl)
                  | ((with_reducible apply wpL_cmp); rfl; rfl; rfl; rfl; rfl)
                  | ((with_reducible apply wpL_arith); rfl; rfl; rfl; (exact IntWalk.i64_in _ (by (try simp only [arithI]); omega)); rfl)); (try simp only [arithI, Act.put, Act.eval, List.setIfInBounds_toArray, List.set_cons_succ, List.set_cons_zero, Array.getD_eq_getD_getElem?, List.getElem?_toArray, List.getElem?_cons_succ, List.getElem?_cons_zero, Option.getD_some])))
            refine bodyPost_ret (res3 rfl (by rfl) (resC kA41 HH.out (by rfl) (.there .here) (Arr.len _)) (by rfl)) rfl ?_
            rw [← HCD.out, ← HRP.out]
            exact ⟨ao1, cap1, rfl, HH.out.own0, HH.out.dropBlk.dropBlk.dropBlk.below⟩
end Go.Proofs.Ytgkfopodhikckaa
namespace Go.Proofs.Ytgkfopodhikckaa
open Go.RowKit
/-- Climbing a path yields the levels' nodes. -/
theorem cur_path {l : List Nd} {h k : Nat} (hl : l.length = 2 ^ h) (hh : h ≤ 10) (hk : k < 2 ^ h) : ∀ j, j ≤ h → curAt k (l.getD k Nd0) (pathL l h k) j = (levAt l j).getD (k / 2 ^ j) Nd0
  | 0, _ => by rw [curAt, levAt, Nat.pow_zero, Nat.div_one]
  | j + 1, hj => by
    have ih := cur_path hl hh hk j (by omega)
    have hk10 : k < 1024 := Nat.lt_of_lt_of_le hk (Nat.le_trans (Nat.pow_le_pow_right (by decide) hh) (by decide))
    have hs : (pathL l h k).getD j Nd0 = (levAt l j).getD ((k / 2 ^ j) ^^^ 1) Nd0 := by
      unfold pathL
      rw [List.getD_eq_getElem?_getD, List.getElem?_map, List.getElem?_range (by omega)]
      rfl
    have hm10 : k / 2 ^ j ≤ 1024 := Nat.le_trans (Nat.div_le_self _ _) (by omega)
    have hlen := levAt_len hl (j + 1) hj
    have hq : k / 2 ^ (j + 1) < (levAt l (j + 1)).length := by
      rw [hlen, Nat.div_lt_iff_lt_mul (Nat.two_pow_pos _), ← Nat.pow_add, show h - (j + 1) + (j + 1) = h by omega]
      exact hk
    rw [curAt, ih, hs, (levAt_join hq).2, xor_one hm10]
    have hdiv : k / 2 ^ (j + 1) = k / 2 ^ j / 2 := by rw [Nat.pow_succ, Nat.div_div_eq_div_mul]
    rw [hdiv]
    unfold pairC
    generalize k / 2 ^ j = m
    by_cases hm : m % 2 = 1
    · have h1 : 2 * (m / 2) = m - 1 := by omega
      have h2 : m - 1 + 1 = m := by omega
      rw [if_pos hm, if_neg (by omega), h1, h2]
    · have h1 : 2 * (m / 2) = m := by omega
      rw [if_neg hm, if_pos (by omega), h1]
theorem ver_path {l : List Nd} {k : Nat} (hc : checkC l.length = 0) (hk : k < l.length) : pathC l k = 0 ∧ verB (rootV l) (l.getD k Nd0) k (pathV l k) = true := by
  obtain ⟨h, hh, hl⟩ := check_pow hc
  have e1 : pathC l (k : Int) = 0 := by unfold pathC; rw [if_pos hc, if_neg (by omega)]
  have e2 : pathV l (k : Int) = pathL l h k := by unfold pathV; rw [if_pos e1, hl, Nat.log2_two_pow]; rfl
  refine ⟨e1, ?_⟩
  rw [hl] at hk
  have hp : ((2 ^ h : Nat) : Int) ≤ (k : Int) → False := fun h' => by omega
  have e3 : fromC (k : Int) (pathL l h k).length = 0 := by
    unfold fromC; rw [pathL_len, if_neg (by omega), if_neg (by rintro (h' | h'); omega; exact hp h')]
  have e4 : fromV (l.getD k Nd0) (k : Int) (pathL l h k) = rootV l := by
    unfold fromV
    rw [if_pos e3, pathL_len, Int.toNat_natCast, cur_path hl hh hk h (Nat.le_refl _), Nat.div_eq_of_lt hk]
    unfold rootV rootN
    rw [if_pos hc, hl, Nat.log2_two_pow]
  rw [e2]
  unfold verB
  rw [e3, e4]
  simp
end Go.Proofs.Ytgkfopodhikckaa
