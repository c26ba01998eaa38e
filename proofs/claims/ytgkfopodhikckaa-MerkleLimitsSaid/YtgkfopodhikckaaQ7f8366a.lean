/- The row MerkleLimits. No condition. -/
import Derived.Test.YtgkfopodhikckaaQc2c4d17
import Derived.Deep.Strs
set_option linter.unusedSimpArgs false
set_option linter.unusedVariables false
/- From and Verify of merkle. Condition: at most 10^9 nodes. -/
namespace Go.Proofs.Ytgkfopodhikckaa
open Go.RowKit
attribute [local irreducible] wpQuiet wpList
theorem res0 {P : Program} {w : World} {fn : Func} {tmps : Array Value} (h : fn.results = #[]) : (results fn tmps).run P w = .ok (.tuple #[]) w := by
  rw [results_eq, h]; simp
set_option maxRecDepth 100000 in
set_option maxHeartbeats 2000000 in
theorem from1_any (w : World) (k : Int) (x y : Nd) : Calls Try.prog 77 #[.int .i64 k, x.val, y.val] w (fun e w' => e = .returned (.tuple #[]) ∧ Below w.heap.size w w') := by
  have HH := hid (Holds.init w)
  go_enter Try.func77, Try.ntmps77
  go_wp2_with (first
    | ((first
        | ((with_reducible apply wpL_skip); rfl; skip)
        | ((with_reducible apply wpL_nilCheck); rfl; rfl)
        | ((with_reducible apply wpL_boxArr (dst := some 4)); rfl; (exact HH.out); rfl; (intro g4_ w_ hq_; (try simp only [List.set_cons_zero, List.set_cons_succ] at hq_); clear HH; have HH := hid hq_; clear hq_))
        | ((with_reducible apply wpL_boxArr (dst := some 5)); rfl; (exact HH.out); rfl; (intro g5_ w_ hq_; (try simp only [List.set_cons_zero, List.set_cons_succ] at hq_); clear HH; have HH := hid hq_; clear hq_))
        | ((with_reducible apply wpL_move); rfl; rfl)
        | ((with_reducible apply wpL_assign); rfl; rfl)
        | ((with_reducible apply wpL_pick); rfl; rfl; rfl)
        | ((with_reducible apply wpL_not); rfl; rfl)
        | ((with_reducible apply wpL_cmp (b := true)); rfl; rfl; rfl; (first | rfl | assumption | (simp only [cmpB, decide_eq_true_eq, decide_eq_false_iff_not, beq_iff_eq, bne_iff_ne, ne_eq, beq_eq_false_iff_ne, bne_eq_false_iff_eq, gt_iff_lt, ge_iff_le]; omega) | (simp; omega)); rfl)
        | ((with_reducible apply wpL_cmp (b := false)); rfl; rfl; rfl; (first | rfl | assumption | (simp only [cmpB, decide_eq_true_eq, decide_eq_false_iff_not, beq_iff_eq, bne_iff_ne, ne_eq, beq_eq_false_iff_ne, bne_eq_false_iff_eq, gt_iff_lt, ge_iff_le]; omega) | (simp; omega)); rfl)
        | ((with_reducible apply wpL_cmp); rfl; rfl; rfl; rfl; rfl)
        | ((with_reducible apply wpL_arith); rfl; rfl; rfl; (exact IntWalk.i64_in _ (by (try simp only [arithI]); omega)); rfl)); (try simp only [arithI, Act.put, Act.eval, List.setIfInBounds_toArray, List.set_cons_succ, List.set_cons_zero, Array.getD_eq_getD_getElem?, List.getElem?_toArray, List.getElem?_cons_succ, List.getElem?_cons_zero, Option.getD_some])))
  exact ⟨rfl, _, res0 rfl, rfl, HH.out.dropBlk.dropBlk.below⟩
def fromC (i : Int) (n : Nat) : Int := if 10 < n then 9 else if i < 0 ∨ ((2 ^ n : Nat) : Int) ≤ i then 8 else 0
def fromV (x : Nd) (i : Int) (p : List Nd) : Nd := if fromC i p.length = 0 then curAt i.toNat x p p.length else Nd0
set_option maxRecDepth 100000 in
set_option maxHeartbeats 4000000 in
theorem from_any (w : World) (v : Value) (x : Nd) (i : Int) (p : List Nd) (hp : Arrs w v p) (hn : p.length ≤ 1000000000) : Calls Try.prog 54 #[x.val, .int .i64 i, v] w (RetR w (fromV x i p) (fromC i p.length)) := by
  obtain ⟨ao, cap, rfl, _⟩ := hp.shape
  have HP := hid hp
  clear hp
  have HH := hid (Holds.init w)
  by_cases h10 : 10 < p.length
  · have e1 : fromC i p.length = 9 := by unfold fromC; rw [if_pos h10]
    have e2 : fromV x i p = Nd0 := by unfold fromV; rw [e1]; rfl
    rw [e1, e2]
    clear e1 e2
    go_enter Try.func54, Try.ntmps54
    go_wp2_with (first
      | ((first
          | ((with_reducible apply wpL_skip); rfl; skip)
          | ((with_reducible apply wpList_build (parts := #[]) (v := Nd0.val)); (exact BZ34); rfl)
          | ((with_reducible apply wpL_storeC (t := 34) (vs := Nd0.cells)); rfl; rfl; (exact kS34); (exact HH.out); (exact .here); (exact Arr.len _); (exact cells_one _); (exact Arr.len _); rfl; (intro w_ hq_; clear HH; have HH := hid hq_; clear hq_))
          | ((with_reducible apply wpL_nilCheck); rfl; rfl)
          | ((with_reducible apply wpL_loadArr (t := 34) kA34 HH.out); rfl; (first | exact .here | exact .there .here | exact .there (.there .here) | exact .there (.there (.there .here)) | exact .there (.there (.there (.there .here))) | exact .there (.there (.there (.there (.there .here)))) | exact .there (.there (.there (.there (.there (.there .here))))) | exact .there (.there (.there (.there (.there (.there (.there .here))))))); rfl)
          | ((with_reducible apply wpL_loadC (t := 34) kA34 HH.out); rfl; (first | exact .here | exact .there .here | exact .there (.there .here) | exact .there (.there (.there .here)) | exact .there (.there (.there (.there .here))) | exact .there (.there (.there (.there (.there .here)))) | exact .there (.there (.there (.there (.there (.there .here))))) | exact .there (.there (.there (.there (.there (.there (.there .here))))))); (first | rfl | exact Arr.len _ | (simp; done)); rfl)
          | ((with_reducible apply wpL_len (t := 46) Try.underlying46); rfl; rfl)
          | ((with_reducible apply wpL_boxArr (dst := some 3)); rfl; (exact HH.out); rfl; (intro g3_ w_ hq_; (try simp only [List.set_cons_zero, List.set_cons_succ] at hq_); clear HH; have HH := hid hq_; clear hq_))
          | ((with_reducible apply wpL_allocC (dst := some 6) kZ34 HH.out); rfl; (intro g6_ w_ hq_; (try simp only [List.set_cons_zero, List.set_cons_succ] at hq_); clear HH; have HH := hid hq_; clear hq_))
          | ((with_reducible apply wpL_storeArr (t := 34) kS34 HH.out); rfl; rfl; (first | exact .here | exact .there .here | exact .there (.there .here) | exact .there (.there (.there .here)) | exact .there (.there (.there (.there .here))) | exact .there (.there (.there (.there (.there .here)))) | exact .there (.there (.there (.there (.there (.there .here))))) | exact .there (.there (.there (.there (.there (.there (.there .here))))))); (first | rfl | exact Arr.len _ | (simp; done)); rfl; (intro w_ hq_; (try simp only [List.set_cons_zero, List.set_cons_succ] at hq_); clear HH; have HH := hid hq_; clear hq_))
          | ((with_reducible apply wpL_storeC (t := 34)); rfl; rfl; (exact kS34); (exact HH.out); (first | exact .here | exact .there .here | exact .there (.there .here) | exact .there (.there (.there .here)) | exact .there (.there (.there (.there .here))) | exact .there (.there (.there (.there (.there .here)))) | exact .there (.there (.there (.there (.there (.there .here))))) | exact .there (.there (.there (.there (.there (.there (.there .here))))))); (first | rfl | exact Arr.len _ | (simp; done)); (first | rfl | (intro u_ hu_; simp only [List.mem_cons, List.not_mem_nil, or_false] at hu_; rcases hu_ with rfl | hu_; rfl) | exact byt_cell1 _ | exact cells_one _ | exact wrd_one _ | exact flat_cell1 _); (first | rfl | exact Arr.len _ | (simp; done)); rfl; (intro w_ hq_; (try simp only [List.set_cons_zero, List.set_cons_succ] at hq_); clear HH; have HH := hid hq_; clear hq_))
          | ((with_reducible apply wpL_move); rfl; rfl)
          | ((with_reducible apply wpL_assign); rfl; rfl)
          | ((with_reducible apply wpL_pick); rfl; rfl; rfl)
          | ((with_reducible apply wpL_not); rfl; rfl)
          | ((with_reducible apply wpL_cmp (b := true)); rfl; rfl; rfl; (first | rfl | assumption | (simp only [cmpB, decide_eq_true_eq, decide_eq_false_iff_not, beq_iff_eq, bne_iff_ne, ne_eq, beq_eq_false_iff_ne, bne_eq_false_iff_eq, gt_iff_lt, ge_iff_le]; omega) | (simp; omega)); rfl)
          | ((with_reducible apply wpL_cmp (b := false)); rfl; rfl; rfl; (first | rfl | assumption | (simp only [cmpB, decide_eq_true_eq, decide_eq_false_iff_not, beq_iff_eq, bne_iff_ne, ne_eq, beq_eq_false_iff_ne, bne_eq_false_iff_eq, gt_iff_lt, ge_iff_le]; omega) | (simp; omega)); rfl)
          | ((with_reducible apply wpL_cmp); rfl; rfl; rfl; rfl; rfl)
          | ((with_reducible apply wpL_arith); rfl; rfl; rfl; (exact IntWalk.i64_in _ (by (try simp only [arithI]); omega)); rfl)); (try simp only [arithI, Act.put, Act.eval, List.setIfInBounds_toArray, List.set_cons_succ, List.set_cons_zero, Array.getD_eq_getD_getElem?, List.getElem?_toArray, List.getElem?_cons_succ, List.getElem?_cons_zero, Option.getD_some])))
    refine bodyPost_ret (res2 rfl (resC kA34 HH.out (by rfl) .here (Arr.len _)) (by rfl)) rfl ?_
    exact RetR.mk rfl rfl HH.out.dropBlk.dropBlk.below
  · by_cases h0 : i < 0
    · have e1 : fromC i p.length = 8 := by unfold fromC; rw [if_neg h10, if_pos (.inl h0)]
      have e2 : fromV x i p = Nd0 := by unfold fromV; rw [e1]; rfl
      rw [e1, e2]
      clear e1 e2
      go_enter Try.func54, Try.ntmps54
      go_wp2_with (first
        | ((first
            | ((with_reducible apply wpL_skip); rfl; skip)
            | ((with_reducible apply wpList_build (parts := #[]) (v := Nd0.val)); (exact BZ34); rfl)
            | ((with_reducible apply wpL_storeC (t := 34) (vs := Nd0.cells)); rfl; rfl; (exact kS34); (exact HH.out); (exact .here); (exact Arr.len _); (exact cells_one _); (exact Arr.len _); rfl; (intro w_ hq_; clear HH; have HH := hid hq_; clear hq_))
            | ((with_reducible apply wpL_nilCheck); rfl; rfl)
            | ((with_reducible apply wpL_loadArr (t := 34) kA34 HH.out); rfl; (first | exact .here | exact .there .here | exact .there (.there .here) | exact .there (.there (.there .here)) | exact .there (.there (.there (.there .here))) | exact .there (.there (.there (.there (.there .here)))) | exact .there (.there (.there (.there (.there (.there .here))))) | exact .there (.there (.there (.there (.there (.there (.there .here))))))); rfl)
            | ((with_reducible apply wpL_loadC (t := 34) kA34 HH.out); rfl; (first | exact .here | exact .there .here | exact .there (.there .here) | exact .there (.there (.there .here)) | exact .there (.there (.there (.there .here))) | exact .there (.there (.there (.there (.there .here)))) | exact .there (.there (.there (.there (.there (.there .here))))) | exact .there (.there (.there (.there (.there (.there (.there .here))))))); (first | rfl | exact Arr.len _ | (simp; done)); rfl)
            | ((with_reducible apply wpL_len (t := 46) Try.underlying46); rfl; rfl)
            | ((with_reducible apply wpL_boxArr (dst := some 3)); rfl; (exact HH.out); rfl; (intro g3_ w_ hq_; (try simp only [List.set_cons_zero, List.set_cons_succ] at hq_); clear HH; have HH := hid hq_; clear hq_))
            | ((with_reducible apply wpL_allocC (dst := some 6) kZ34 HH.out); rfl; (intro g6_ w_ hq_; (try simp only [List.set_cons_zero, List.set_cons_succ] at hq_); clear HH; have HH := hid hq_; clear hq_))
            | ((with_reducible apply wpL_storeArr (t := 34) kS34 HH.out); rfl; rfl; (first | exact .here | exact .there .here | exact .there (.there .here) | exact .there (.there (.there .here)) | exact .there (.there (.there (.there .here))) | exact .there (.there (.there (.there (.there .here)))) | exact .there (.there (.there (.there (.there (.there .here))))) | exact .there (.there (.there (.there (.there (.there (.there .here))))))); (first | rfl | exact Arr.len _ | (simp; done)); rfl; (intro w_ hq_; (try simp only [List.set_cons_zero, List.set_cons_succ] at hq_); clear HH; have HH := hid hq_; clear hq_))
            | ((with_reducible apply wpL_storeC (t := 34)); rfl; rfl; (exact kS34); (exact HH.out); (first | exact .here | exact .there .here | exact .there (.there .here) | exact .there (.there (.there .here)) | exact .there (.there (.there (.there .here))) | exact .there (.there (.there (.there (.there .here)))) | exact .there (.there (.there (.there (.there (.there .here))))) | exact .there (.there (.there (.there (.there (.there (.there .here))))))); (first | rfl | exact Arr.len _ | (simp; done)); (first | rfl | (intro u_ hu_; simp only [List.mem_cons, List.not_mem_nil, or_false] at hu_; rcases hu_ with rfl | hu_; rfl) | exact byt_cell1 _ | exact cells_one _ | exact wrd_one _ | exact flat_cell1 _); (first | rfl | exact Arr.len _ | (simp; done)); rfl; (intro w_ hq_; (try simp only [List.set_cons_zero, List.set_cons_succ] at hq_); clear HH; have HH := hid hq_; clear hq_))
            | ((with_reducible apply wpL_move); rfl; rfl)
            | ((with_reducible apply wpL_assign); rfl; rfl)
            | ((with_reducible apply wpL_pick); rfl; rfl; rfl)
            | ((with_reducible apply wpL_not); rfl; rfl)
            | ((with_reducible apply wpL_cmp (b := true)); rfl; rfl; rfl; (first | rfl | assumption | (simp only [cmpB, decide_eq_true_eq, decide_eq_false_iff_not, beq_iff_eq, bne_iff_ne, ne_eq, beq_eq_false_iff_ne, bne_eq_false_iff_eq, gt_iff_lt, ge_iff_le]; omega) | (simp; omega)); rfl)
            | ((with_reducible apply wpL_cmp (b := false)); rfl; rfl; rfl; (first | rfl | assumption | (simp only [cmpB, decide_eq_true_eq, decide_eq_false_iff_not, beq_iff_eq, bne_iff_ne, ne_eq, beq_eq_false_iff_ne, bne_eq_false_iff_eq, gt_iff_lt, ge_iff_le]; omega) | (simp; omega)); rfl)
            | ((with_reducible apply wpL_cmp); rfl; rfl; rfl; rfl; rfl)
            | ((with_reducible apply wpL_arith); rfl; rfl; rfl; (exact IntWalk.i64_in _ (by (try simp only [arithI]); omega)); rfl)); (try simp only [arithI, Act.put, Act.eval, List.setIfInBounds_toArray, List.set_cons_succ, List.set_cons_zero, Array.getD_eq_getD_getElem?, List.getElem?_toArray, List.getElem?_cons_succ, List.getElem?_cons_zero, Option.getD_some])))
      refine bodyPost_ret (res2 rfl (resC kA34 HH.out (by rfl) .here (Arr.len _)) (by rfl)) rfl ?_
      exact RetR.mk rfl rfl HH.out.dropBlk.dropBlk.below
    · obtain ⟨j, rfl⟩ : ∃ j : Nat, i = j := ⟨i.toNat, by omega⟩
      obtain ⟨q, hq⟩ : ∃ q, 2 ^ p.length = q := ⟨_, rfl⟩
      have hq10 : q ≤ 1024 := by rw [← hq]; exact Nat.le_trans (Nat.pow_le_pow_right (by decide) (show p.length ≤ 10 by omega)) (by decide)
      have HQ1 := hid (show 1 * 2 ^ p.length = q by rw [Nat.one_mul, hq])
      have HW := hid (show IntKind.i64.wrap ((q : Nat) : Int) = (q : Int) from IntWalk.i64_in _ (by omega))
      by_cases hj : q ≤ j
      · have e1 : fromC (j : Int) p.length = 8 := by unfold fromC; rw [if_neg h10, if_pos (.inr (by rw [hq]; omega))]
        have e2 : fromV x (j : Int) p = Nd0 := by unfold fromV; rw [e1]; rfl
        rw [e1, e2]
        clear e1 e2 hq
        go_enter Try.func54, Try.ntmps54
        go_wp2_with (first
          | ((first
              | ((with_reducible apply wpL_skip); rfl; skip)
              | ((with_reducible apply wpL_shlP (m := 1) (k := p.length) (r := q)); rfl; rfl; rfl; rfl; (exact (by omega)); (exact HQ1.out); (exact HW.out); rfl)
              | ((with_reducible apply wpList_build (parts := #[]) (v := Nd0.val)); (exact BZ34); rfl)
              | ((with_reducible apply wpL_storeC (t := 34) (vs := Nd0.cells)); rfl; rfl; (exact kS34); (exact HH.out); (exact .here); (exact Arr.len _); (exact cells_one _); (exact Arr.len _); rfl; (intro w_ hq_; clear HH; have HH := hid hq_; clear hq_))
              | ((with_reducible apply wpL_nilCheck); rfl; rfl)
              | ((with_reducible apply wpL_loadArr (t := 34) kA34 HH.out); rfl; (first | exact .here | exact .there .here | exact .there (.there .here) | exact .there (.there (.there .here)) | exact .there (.there (.there (.there .here))) | exact .there (.there (.there (.there (.there .here)))) | exact .there (.there (.there (.there (.there (.there .here))))) | exact .there (.there (.there (.there (.there (.there (.there .here))))))); rfl)
              | ((with_reducible apply wpL_loadC (t := 34) kA34 HH.out); rfl; (first | exact .here | exact .there .here | exact .there (.there .here) | exact .there (.there (.there .here)) | exact .there (.there (.there (.there .here))) | exact .there (.there (.there (.there (.there .here)))) | exact .there (.there (.there (.there (.there (.there .here))))) | exact .there (.there (.there (.there (.there (.there (.there .here))))))); (first | rfl | exact Arr.len _ | (simp; done)); rfl)
              | ((with_reducible apply wpL_len (t := 46) Try.underlying46); rfl; rfl)
              | ((with_reducible apply wpL_boxArr (dst := some 3)); rfl; (exact HH.out); rfl; (intro g3_ w_ hq_; (try simp only [List.set_cons_zero, List.set_cons_succ] at hq_); clear HH; have HH := hid hq_; clear hq_))
              | ((with_reducible apply wpL_allocC (dst := some 6) kZ34 HH.out); rfl; (intro g6_ w_ hq_; (try simp only [List.set_cons_zero, List.set_cons_succ] at hq_); clear HH; have HH := hid hq_; clear hq_))
              | ((with_reducible apply wpL_storeArr (t := 34) kS34 HH.out); rfl; rfl; (first | exact .here | exact .there .here | exact .there (.there .here) | exact .there (.there (.there .here)) | exact .there (.there (.there (.there .here))) | exact .there (.there (.there (.there (.there .here)))) | exact .there (.there (.there (.there (.there (.there .here))))) | exact .there (.there (.there (.there (.there (.there (.there .here))))))); (first | rfl | exact Arr.len _ | (simp; done)); rfl; (intro w_ hq_; (try simp only [List.set_cons_zero, List.set_cons_succ] at hq_); clear HH; have HH := hid hq_; clear hq_))
              | ((with_reducible apply wpL_storeC (t := 34)); rfl; rfl; (exact kS34); (exact HH.out); (first | exact .here | exact .there .here | exact .there (.there .here) | exact .there (.there (.there .here)) | exact .there (.there (.there (.there .here))) | exact .there (.there (.there (.there (.there .here)))) | exact .there (.there (.there (.there (.there (.there .here))))) | exact .there (.there (.there (.there (.there (.there (.there .here))))))); (first | rfl | exact Arr.len _ | (simp; done)); (first | rfl | (intro u_ hu_; simp only [List.mem_cons, List.not_mem_nil, or_false] at hu_; rcases hu_ with rfl | hu_; rfl) | exact byt_cell1 _ | exact cells_one _ | exact wrd_one _ | exact flat_cell1 _); (first | rfl | exact Arr.len _ | (simp; done)); rfl; (intro w_ hq_; (try simp only [List.set_cons_zero, List.set_cons_succ] at hq_); clear HH; have HH := hid hq_; clear hq_))
              | ((with_reducible apply wpL_move); rfl; rfl)
              | ((with_reducible apply wpL_assign); rfl; rfl)
              | ((with_reducible apply wpL_pick); rfl; rfl; rfl)
              | ((with_reducible apply wpL_not); rfl; rfl)
              | ((with_reducible apply wpL_cmp (b := true)); rfl; rfl; rfl; (first | rfl | assumption | (simp only [cmpB, decide_eq_true_eq, decide_eq_false_iff_not, beq_iff_eq, bne_iff_ne, ne_eq, beq_eq_false_iff_ne, bne_eq_false_iff_eq, gt_iff_lt, ge_iff_le]; omega) | (simp; omega)); rfl)
              | ((with_reducible apply wpL_cmp (b := false)); rfl; rfl; rfl; (first | rfl | assumption | (simp only [cmpB, decide_eq_true_eq, decide_eq_false_iff_not, beq_iff_eq, bne_iff_ne, ne_eq, beq_eq_false_iff_ne, bne_eq_false_iff_eq, gt_iff_lt, ge_iff_le]; omega) | (simp; omega)); rfl)
              | ((with_reducible apply wpL_cmp); rfl; rfl; rfl; rfl; rfl)
              | ((with_reducible apply wpL_arith); rfl; rfl; rfl; (exact IntWalk.i64_in _ (by (try simp only [arithI]); omega)); rfl)); (try simp only [arithI, Act.put, Act.eval, List.setIfInBounds_toArray, List.set_cons_succ, List.set_cons_zero, Array.getD_eq_getD_getElem?, List.getElem?_toArray, List.getElem?_cons_succ, List.getElem?_cons_zero, Option.getD_some])))
        refine bodyPost_ret (res2 rfl (resC kA34 HH.out (by rfl) .here (Arr.len _)) (by rfl)) rfl ?_
        exact RetR.mk rfl rfl HH.out.dropBlk.dropBlk.below
      · have e1 : fromC (j : Int) p.length = 0 := by unfold fromC; rw [if_neg h10, if_neg (by rw [hq]; omega)]
        obtain ⟨d, hd⟩ : ∃ d, curAt j x p p.length = d := ⟨_, rfl⟩
        have e2 : fromV x (j : Int) p = d := by unfold fromV; rw [if_pos e1]; exact hd
        have HD := hid hd
        rw [e1, e2]
        clear e1 e2 hq hd
        go_enter Try.func54, Try.ntmps54
        go_wp2_with (first
          | ((first
              | ((with_reducible apply wpL_skip); rfl; skip)
              | ((with_reducible apply wpL_shlP (m := 1) (k := p.length) (r := q)); rfl; rfl; rfl; rfl; (exact (by omega)); (exact HQ1.out); (exact HW.out); rfl)
              | (go_at_call 73; (have hcall_ := hid (climb_any _ _ [] (fun _ => []) [] 77 #[] kB77 (.slice ao p.length cap) x p j (fun bs w1 h1 => h1.sl (HH.out.sl HP.out)) (by omega) (by omega) (Holds.init _) (fun k _ ex w1 h1 => (from1_any w1 _ _ _).mono fun e w2 hq => ⟨hq.1, h1.grow hq.2⟩))); (with_reducible refine hcall_.out.mono ?_); clear hcall_; rw [HD.out]; rintro e_ w2_ ⟨rfl, hb_⟩; (have hq_ := HH.out.grow hb_.below); clear HH; have HH := hid hq_; clear hq_ hb_)
              | ((with_reducible apply wpL_storeC (t := 34) (vs := d.cells)); rfl; rfl; (exact kS34); (exact HH.out); (exact .here); (exact Arr.len _); (exact cells_one _); (exact Arr.len _); rfl; (intro w_ hq_; clear HH; have HH := hid hq_; clear hq_))
              | ((with_reducible apply wpL_nilCheck); rfl; rfl)
              | ((with_reducible apply wpL_loadArr (t := 34) kA34 HH.out); rfl; (first | exact .here | exact .there .here | exact .there (.there .here) | exact .there (.there (.there .here)) | exact .there (.there (.there (.there .here))) | exact .there (.there (.there (.there (.there .here)))) | exact .there (.there (.there (.there (.there (.there .here))))) | exact .there (.there (.there (.there (.there (.there (.there .here))))))); rfl)
              | ((with_reducible apply wpL_loadC (t := 34) kA34 HH.out); rfl; (first | exact .here | exact .there .here | exact .there (.there .here) | exact .there (.there (.there .here)) | exact .there (.there (.there (.there .here))) | exact .there (.there (.there (.there (.there .here)))) | exact .there (.there (.there (.there (.there (.there .here))))) | exact .there (.there (.there (.there (.there (.there (.there .here))))))); (first | rfl | exact Arr.len _ | (simp; done)); rfl)
              | ((with_reducible apply wpL_len (t := 46) Try.underlying46); rfl; rfl)
              | ((with_reducible apply wpL_boxArr (dst := some 3)); rfl; (exact HH.out); rfl; (intro g3_ w_ hq_; (try simp only [List.set_cons_zero, List.set_cons_succ] at hq_); clear HH; have HH := hid hq_; clear hq_))
              | ((with_reducible apply wpL_allocC (dst := some 6) kZ34 HH.out); rfl; (intro g6_ w_ hq_; (try simp only [List.set_cons_zero, List.set_cons_succ] at hq_); clear HH; have HH := hid hq_; clear hq_))
              | ((with_reducible apply wpL_storeArr (t := 34) kS34 HH.out); rfl; rfl; (first | exact .here | exact .there .here | exact .there (.there .here) | exact .there (.there (.there .here)) | exact .there (.there (.there (.there .here))) | exact .there (.there (.there (.there (.there .here)))) | exact .there (.there (.there (.there (.there (.there .here))))) | exact .there (.there (.there (.there (.there (.there (.there .here))))))); (first | rfl | exact Arr.len _ | (simp; done)); rfl; (intro w_ hq_; (try simp only [List.set_cons_zero, List.set_cons_succ] at hq_); clear HH; have HH := hid hq_; clear hq_))
              | ((with_reducible apply wpL_storeC (t := 34)); rfl; rfl; (exact kS34); (exact HH.out); (first | exact .here | exact .there .here | exact .there (.there .here) | exact .there (.there (.there .here)) | exact .there (.there (.there (.there .here))) | exact .there (.there (.there (.there (.there .here)))) | exact .there (.there (.there (.there (.there (.there .here))))) | exact .there (.there (.there (.there (.there (.there (.there .here))))))); (first | rfl | exact Arr.len _ | (simp; done)); (first | rfl | (intro u_ hu_; simp only [List.mem_cons, List.not_mem_nil, or_false] at hu_; rcases hu_ with rfl | hu_; rfl) | exact byt_cell1 _ | exact cells_one _ | exact wrd_one _ | exact flat_cell1 _); (first | rfl | exact Arr.len _ | (simp; done)); rfl; (intro w_ hq_; (try simp only [List.set_cons_zero, List.set_cons_succ] at hq_); clear HH; have HH := hid hq_; clear hq_))
              | ((with_reducible apply wpL_move); rfl; rfl)
              | ((with_reducible apply wpL_assign); rfl; rfl)
              | ((with_reducible apply wpL_pick); rfl; rfl; rfl)
              | ((with_reducible apply wpL_not); rfl; rfl)
              | ((with_reducible apply wpL_cmp (b := true)); rfl; rfl; rfl; (first | rfl | assumption | (simp only [cmpB, decide_eq_true_eq, decide_eq_false_iff_not, beq_iff_eq, bne_iff_ne, ne_eq, beq_eq_false_iff_ne, bne_eq_false_iff_eq, gt_iff_lt, ge_iff_le]; omega) | (simp; omega)); rfl)
              | ((with_reducible apply wpL_cmp (b := false)); rfl; rfl; rfl; (first | rfl | assumption | (simp only [cmpB, decide_eq_true_eq, decide_eq_false_iff_not, beq_iff_eq, bne_iff_ne, ne_eq, beq_eq_false_iff_ne, bne_eq_false_iff_eq, gt_iff_lt, ge_iff_le]; omega) | (simp; omega)); rfl)
              | ((with_reducible apply wpL_cmp); rfl; rfl; rfl; rfl; rfl)
              | ((with_reducible apply wpL_arith); rfl; rfl; rfl; (exact IntWalk.i64_in _ (by (try simp only [arithI]); omega)); rfl)); (try simp only [arithI, Act.put, Act.eval, List.setIfInBounds_toArray, List.set_cons_succ, List.set_cons_zero, Array.getD_eq_getD_getElem?, List.getElem?_toArray, List.getElem?_cons_succ, List.getElem?_cons_zero, Option.getD_some])))
        refine bodyPost_ret (res2 rfl (resC kA34 HH.out (by rfl) .here (Arr.len _)) (by rfl)) rfl ?_
        exact RetR.mk rfl rfl HH.out.dropBlk.dropBlk.below
/-- What Verify answers. -/
def verB (r x : Nd) (i : Int) (p : List Nd) : Bool := fromC i p.length == 0 && fromV x i p == r
set_option maxRecDepth 100000 in
set_option maxHeartbeats 4000000 in
theorem verify_any (w : World) (v : Value) (r x : Nd) (i : Int) (p : List Nd) (hp : Arrs w v p) (hn : p.length ≤ 1000000000) : Calls Try.prog 53 #[r.val, x.val, .int .i64 i, v] w (RetB w (verB r x i p)) := by
  obtain ⟨ao, cap, rfl, _⟩ := hp.shape
  have HP := hid hp
  clear hp
  have HH := hid (Holds.init w)
  obtain ⟨c, hc⟩ : ∃ c, fromC i p.length = c := ⟨_, rfl⟩
  obtain ⟨d, hd⟩ : ∃ d, fromV x i p = d := ⟨_, rfl⟩
  have HC := hid hc
  have HD := hid hd
  obtain ⟨b, hb⟩ : ∃ b, verB r x i p = b := ⟨_, rfl⟩
  have hvb := hb
  unfold verB at hvb
  rw [hc, hd] at hvb
  have HB := hid hvb
  rw [hb]
  clear hb hvb hc hd
  by_cases h0 : c = 0
  · subst h0
    have HE := hid (show (d == r) = b by rw [← HB.out]; simp)
    go_enter Try.func53, Try.ntmps53
    go_wp2_with (first
      | ((first
          | ((with_reducible apply wpL_skip); rfl; skip)
          | (go_at_call 54; (have hcall_ := hid (from_any _ (.slice ao p.length cap) x i p (HH.out.sl HP.out) hn)); (with_reducible refine hcall_.out.mono ?_); clear hcall_; rw [HC.out, HD.out]; rintro e_ w2_ ⟨rfl, hb_⟩; (have hq_ := HH.out.grow hb_); clear HH; have HH := hid hq_; clear hq_ hb_)
          | ((with_reducible apply wpL_eqlA (b := b) (p := d) (q := r) kR34); rfl; rfl; (exact HE.out); rfl)
          | ((with_reducible apply wpL_nilCheck); rfl; rfl)
          | ((with_reducible apply wpL_loadArr (t := 34) kA34 HH.out); rfl; (first | exact .here | exact .there .here | exact .there (.there .here) | exact .there (.there (.there .here)) | exact .there (.there (.there (.there .here))) | exact .there (.there (.there (.there (.there .here)))) | exact .there (.there (.there (.there (.there (.there .here))))) | exact .there (.there (.there (.there (.there (.there (.there .here))))))); rfl)
          | ((with_reducible apply wpL_loadC (t := 34) kA34 HH.out); rfl; (first | exact .here | exact .there .here | exact .there (.there .here) | exact .there (.there (.there .here)) | exact .there (.there (.there (.there .here))) | exact .there (.there (.there (.there (.there .here)))) | exact .there (.there (.there (.there (.there (.there .here))))) | exact .there (.there (.there (.there (.there (.there (.there .here))))))); (first | rfl | exact Arr.len _ | (simp; done)); rfl)
          | ((with_reducible apply wpL_boxArr (dst := some 4)); rfl; (exact HH.out); rfl; (intro g4_ w_ hq_; (try simp only [List.set_cons_zero, List.set_cons_succ] at hq_); clear HH; have HH := hid hq_; clear hq_))
          | ((with_reducible apply wpL_boxArr (dst := some 5)); rfl; (exact HH.out); rfl; (intro g5_ w_ hq_; (try simp only [List.set_cons_zero, List.set_cons_succ] at hq_); clear HH; have HH := hid hq_; clear hq_))
          | ((with_reducible apply wpL_allocC (dst := some 9) kZ34 HH.out); rfl; (intro g9_ w_ hq_; (try simp only [List.set_cons_zero, List.set_cons_succ] at hq_); clear HH; have HH := hid hq_; clear hq_))
          | ((with_reducible apply wpL_storeArr (t := 34) kS34 HH.out); rfl; rfl; (first | exact .here | exact .there .here | exact .there (.there .here) | exact .there (.there (.there .here)) | exact .there (.there (.there (.there .here))) | exact .there (.there (.there (.there (.there .here)))) | exact .there (.there (.there (.there (.there (.there .here))))) | exact .there (.there (.there (.there (.there (.there (.there .here))))))); (first | rfl | exact Arr.len _ | (simp; done)); rfl; (intro w_ hq_; (try simp only [List.set_cons_zero, List.set_cons_succ] at hq_); clear HH; have HH := hid hq_; clear hq_))
          | ((with_reducible apply wpL_storeC (t := 34)); rfl; rfl; (exact kS34); (exact HH.out); (first | exact .here | exact .there .here | exact .there (.there .here) | exact .there (.there (.there .here)) | exact .there (.there (.there (.there .here))) | exact .there (.there (.there (.there (.there .here)))) | exact .there (.there (.there (.there (.there (.there .here))))) | exact .there (.there (.there (.there (.there (.there (.there .here))))))); (first | rfl | exact Arr.len _ | (simp; done)); (first | rfl | (intro u_ hu_; simp only [List.mem_cons, List.not_mem_nil, or_false] at hu_; rcases hu_ with rfl | hu_; rfl) | exact byt_cell1 _ | exact cells_one _ | exact wrd_one _ | exact flat_cell1 _); (first | rfl | exact Arr.len _ | (simp; done)); rfl; (intro w_ hq_; (try simp only [List.set_cons_zero, List.set_cons_succ] at hq_); clear HH; have HH := hid hq_; clear hq_))
          | ((with_reducible apply wpL_move); rfl; rfl)
          | ((with_reducible apply wpL_assign); rfl; rfl)
          | ((with_reducible apply wpL_pick); rfl; rfl; rfl)
          | ((with_reducible apply wpL_not); rfl; rfl)
          | ((with_reducible apply wpL_cmp (b := true)); rfl; rfl; rfl; (first | rfl | assumption | (simp only [cmpB, decide_eq_true_eq, decide_eq_false_iff_not, beq_iff_eq, bne_iff_ne, ne_eq, beq_eq_false_iff_ne, bne_eq_false_iff_eq, gt_iff_lt, ge_iff_le]; omega) | (simp; omega)); rfl)
          | ((with_reducible apply wpL_cmp (b := false)); rfl; rfl; rfl; (first | rfl | assumption | (simp only [cmpB, decide_eq_true_eq, decide_eq_false_iff_not, beq_iff_eq, bne_iff_ne, ne_eq, beq_eq_false_iff_ne, bne_eq_false_iff_eq, gt_iff_lt, ge_iff_le]; omega) | (simp; omega)); rfl)
          | ((with_reducible apply wpL_cmp); rfl; rfl; rfl; rfl; rfl)
          | ((with_reducible apply wpL_arith); rfl; rfl; rfl; (exact IntWalk.i64_in _ (by (try simp only [arithI]); omega)); rfl)); (try simp only [arithI, Act.put, Act.eval, List.setIfInBounds_toArray, List.set_cons_succ, List.set_cons_zero, Array.getD_eq_getD_getElem?, List.getElem?_toArray, List.getElem?_cons_succ, List.getElem?_cons_zero, Option.getD_some])))
    go_ret
    exact RetB.mk rfl HH.out.dropBlk.dropBlk.dropBlk.below
  · have hcb : (c == 0) = false := by simpa using h0
    have HE := hid (show false = b by rw [← HB.out, hcb]; rfl)
    go_enter Try.func53, Try.ntmps53
    go_wp2_with (first
      | ((first
          | ((with_reducible apply wpL_skip); rfl; skip)
          | (go_at_call 54; (have hcall_ := hid (from_any _ (.slice ao p.length cap) x i p (HH.out.sl HP.out) hn)); (with_reducible refine hcall_.out.mono ?_); clear hcall_; rw [HC.out, HD.out]; rintro e_ w2_ ⟨rfl, hb_⟩; (have hq_ := HH.out.grow hb_); clear HH; have HH := hid hq_; clear hq_ hb_)
          | ((with_reducible apply wpL_nilCheck); rfl; rfl)
          | ((with_reducible apply wpL_loadArr (t := 34) kA34 HH.out); rfl; (first | exact .here | exact .there .here | exact .there (.there .here) | exact .there (.there (.there .here)) | exact .there (.there (.there (.there .here))) | exact .there (.there (.there (.there (.there .here)))) | exact .there (.there (.there (.there (.there (.there .here))))) | exact .there (.there (.there (.there (.there (.there (.there .here))))))); rfl)
          | ((with_reducible apply wpL_loadC (t := 34) kA34 HH.out); rfl; (first | exact .here | exact .there .here | exact .there (.there .here) | exact .there (.there (.there .here)) | exact .there (.there (.there (.there .here))) | exact .there (.there (.there (.there (.there .here)))) | exact .there (.there (.there (.there (.there (.there .here))))) | exact .there (.there (.there (.there (.there (.there (.there .here))))))); (first | rfl | exact Arr.len _ | (simp; done)); rfl)
          | ((with_reducible apply wpL_boxArr (dst := some 4)); rfl; (exact HH.out); rfl; (intro g4_ w_ hq_; (try simp only [List.set_cons_zero, List.set_cons_succ] at hq_); clear HH; have HH := hid hq_; clear hq_))
          | ((with_reducible apply wpL_boxArr (dst := some 5)); rfl; (exact HH.out); rfl; (intro g5_ w_ hq_; (try simp only [List.set_cons_zero, List.set_cons_succ] at hq_); clear HH; have HH := hid hq_; clear hq_))
          | ((with_reducible apply wpL_allocC (dst := some 9) kZ34 HH.out); rfl; (intro g9_ w_ hq_; (try simp only [List.set_cons_zero, List.set_cons_succ] at hq_); clear HH; have HH := hid hq_; clear hq_))
          | ((with_reducible apply wpL_storeArr (t := 34) kS34 HH.out); rfl; rfl; (first | exact .here | exact .there .here | exact .there (.there .here) | exact .there (.there (.there .here)) | exact .there (.there (.there (.there .here))) | exact .there (.there (.there (.there (.there .here)))) | exact .there (.there (.there (.there (.there (.there .here))))) | exact .there (.there (.there (.there (.there (.there (.there .here))))))); (first | rfl | exact Arr.len _ | (simp; done)); rfl; (intro w_ hq_; (try simp only [List.set_cons_zero, List.set_cons_succ] at hq_); clear HH; have HH := hid hq_; clear hq_))
          | ((with_reducible apply wpL_storeC (t := 34)); rfl; rfl; (exact kS34); (exact HH.out); (first | exact .here | exact .there .here | exact .there (.there .here) | exact .there (.there (.there .here)) | exact .there (.there (.there (.there .here))) | exact .there (.there (.there (.there (.there .here)))) | exact .there (.there (.there (.there (.there (.there .here))))) | exact .there (.there (.there (.there (.there (.there (.there .here))))))); (first | rfl | exact Arr.len _ | (simp; done)); (first | rfl | (intro u_ hu_; simp only [List.mem_cons, List.not_mem_nil, or_false] at hu_; rcases hu_ with rfl | hu_; rfl) | exact byt_cell1 _ | exact cells_one _ | exact wrd_one _ | exact flat_cell1 _); (first | rfl | exact Arr.len _ | (simp; done)); rfl; (intro w_ hq_; (try simp only [List.set_cons_zero, List.set_cons_succ] at hq_); clear HH; have HH := hid hq_; clear hq_))
          | ((with_reducible apply wpL_move); rfl; rfl)
          | ((with_reducible apply wpL_assign); rfl; rfl)
          | ((with_reducible apply wpL_pick); rfl; rfl; rfl)
          | ((with_reducible apply wpL_not); rfl; rfl)
          | ((with_reducible apply wpL_cmp (b := true)); rfl; rfl; rfl; (first | rfl | assumption | (simp only [cmpB, decide_eq_true_eq, decide_eq_false_iff_not, beq_iff_eq, bne_iff_ne, ne_eq, beq_eq_false_iff_ne, bne_eq_false_iff_eq, gt_iff_lt, ge_iff_le]; omega) | (simp; omega)); rfl)
          | ((with_reducible apply wpL_cmp (b := false)); rfl; rfl; rfl; (first | rfl | assumption | (simp only [cmpB, decide_eq_true_eq, decide_eq_false_iff_not, beq_iff_eq, bne_iff_ne, ne_eq, beq_eq_false_iff_ne, bne_eq_false_iff_eq, gt_iff_lt, ge_iff_le]; omega) | (simp; omega)); rfl)
          | ((with_reducible apply wpL_cmp); rfl; rfl; rfl; rfl; rfl)
          | ((with_reducible apply wpL_arith); rfl; rfl; rfl; (exact IntWalk.i64_in _ (by (try simp only [arithI]); omega)); rfl)); (try simp only [arithI, Act.put, Act.eval, List.setIfInBounds_toArray, List.set_cons_succ, List.set_cons_zero, Array.getD_eq_getD_getElem?, List.getElem?_toArray, List.getElem?_cons_succ, List.getElem?_cons_zero, Option.getD_some])))
    go_ret
    exact RetB.mk HE.out HH.out.dropBlk.dropBlk.dropBlk.below
end Go.Proofs.Ytgkfopodhikckaa

/- The example of the merkle laws. No condition. -/
namespace Go.Proofs.Ytgkfopodhikckaa
open Go.RowKit
attribute [local irreducible] wpQuiet wpList
set_option maxRecDepth 100000 in
theorem leaf_ne : ((sumB (leafPre 0 ++ [97])).1.take 16 == (sumB (leafPre 1 ++ [98])).1.take 16) = false := by rw [sumB_P, sumB_P]; kernel_rfl
theorem leaf_ne' : (!(leafN 0 [97] == leafN 1 [98])) = true := by
  rw [Bool.not_eq_true', beq_eq_false_iff_ne]
  intro e
  have h := leaf_ne
  have e2 : (leafN 0 [97]).1 = (leafN 1 [98]).1 := by rw [e]
  have e3 : (sumB (leafPre 0 ++ [97])).1.take 16 = (sumB (leafPre 1 ++ [98])).1.take 16 := e2
  rw [e3] at h
  simp at h
theorem check_two : checkC 2 = 0 := by decide +kernel
theorem log_two : Nat.log2 2 = 1 := by decide +kernel
theorem root_two (a b : Nd) : rootV [a, b] = joinN 1 a b := by
  unfold rootV rootN
  rw [show [a, b].length = 2 from rfl, if_pos check_two, log_two]
  rfl
theorem ver_two (a b : Nd) : verB (joinN 1 a b) b 1 [a] = true := by
  have e1 : fromC 1 [a].length = 0 := (by decide : fromC 1 1 = 0)
  have e2 : fromV b 1 [a] = joinN 1 a b := by unfold fromV; rw [if_pos e1]; rfl
  unfold verB
  rw [e1, e2]
  simp
set_option maxRecDepth 100000 in
set_option maxHeartbeats 4000000 in
theorem knownM_any (w : World) : Calls Try.prog 23 #[] w (RetB w true) := by
  have HH := hid (Holds.init w)
  obtain ⟨a, ha⟩ : ∃ a, leafN 0 [97] = a := ⟨_, rfl⟩
  obtain ⟨b, hb⟩ : ∃ b, leafN 1 [98] = b := ⟨_, rfl⟩
  have HNE := hid leaf_ne'
  rw [ha, hb] at HNE
  obtain ⟨r, hr⟩ : ∃ r, joinN 1 a b = r := ⟨_, rfl⟩
  have HR := hid (root_two a b)
  have HV := hid (ver_two a b)
  rw [hr] at HR HV
  have HJ := hid hr
  have HA := hid ha
  have HB := hid hb
  have HCK := hid (show checkC [a, b].length = 0 from check_two)
  clear ha hb hr
  go_enter Try.func23, Try.ntmps23
  go_wp2_with (first
    | ((first
        | ((with_reducible apply wpL_skip); rfl; skip)
        | ((with_reducible apply wpL_buildB [97] (dst := some 5)); rfl; rfl; (exact (by omega)); (exact HH.out); rfl; (intro g_ w_ hq_; clear HH; have HH := hid hq_; clear hq_))
        | ((with_reducible apply wpL_buildB [98] (dst := some 8)); rfl; rfl; (exact (by omega)); (exact HH.out); rfl; (intro g_ w_ hq_; clear HH; have HH := hid hq_; clear hq_))
        | ((with_reducible apply wpL_convConst (dst := some 6) (l := [97]) Try.underlying22 Try.underlying5 HH.out); rfl; rfl; rfl; (intro w_ hq_ hb_; clear HH; have HH := hid hq_; have HB6 := hid hb_; clear hq_ hb_))
        | ((with_reducible apply wpL_convConst (dst := some 9) (l := [98]) Try.underlying22 Try.underlying5 HH.out); rfl; rfl; rfl; (intro w_ hq_ hb_; clear HH; have HH := hid hq_; have HB9 := hid hb_; clear hq_ hb_))
        | (go_at_call 45; (have hcall_ := hid (leaf_any _ 0 _ [97] HB6.out (by simp))); (with_reducible refine hcall_.out.mono ?_); clear hcall_; rw [HA.out]; rintro e_ w2_ ⟨rfl, hb_⟩; (have hq_ := HH.out.grow hb_); clear HH; have HH := hid hq_; clear hq_ hb_)
        | (go_at_call 45; (have hcall_ := hid (leaf_any _ 1 _ [98] HB9.out (by simp))); (with_reducible refine hcall_.out.mono ?_); clear hcall_; rw [HB.out]; rintro e_ w2_ ⟨rfl, hb_⟩; (have hq_ := HH.out.grow hb_); clear HH; have HH := hid hq_; clear hq_ hb_)
        | ((with_reducible apply wpList_buildArr (dst := some 14) kE46 [a, b] HH.out); rfl; rfl; (exact (by decide)); rfl; (intro g_ w_ hq_; clear HH; have HH := hid hq_; clear hq_))
        | (go_at_call 38; (have hcall_ := hid (root_any _ _ [a, b] HH.out.sl0 (by simp))); (with_reducible refine hcall_.out.mono ?_); clear hcall_; rw [HR.out, HCK.out]; rintro e_ w2_ ⟨rfl, hb_⟩; (have hq_ := HH.out.grow hb_); clear HH; have HH := hid hq_; clear hq_ hb_)
        | ((with_reducible apply wpL_nilCheck); rfl; rfl)
        | ((with_reducible apply wpL_loadArr (t := 34) kA34 HH.out); rfl; (first | exact .here | exact .there .here | exact .there (.there .here) | exact .there (.there (.there .here)) | exact .there (.there (.there (.there .here))) | exact .there (.there (.there (.there (.there .here)))) | exact .there (.there (.there (.there (.there (.there .here))))) | exact .there (.there (.there (.there (.there (.there (.there .here))))))); rfl)
        | ((with_reducible apply wpL_loadC (t := 34) kA34 HH.out); rfl; (first | exact .here | exact .there .here | exact .there (.there .here) | exact .there (.there (.there .here)) | exact .there (.there (.there (.there .here))) | exact .there (.there (.there (.there (.there .here)))) | exact .there (.there (.there (.there (.there (.there .here))))) | exact .there (.there (.there (.there (.there (.there (.there .here))))))); (first | rfl | exact Arr.len _ | (simp; done)); rfl)
        | ((with_reducible apply wpL_allocC (dst := some 1) kZ34 HH.out); rfl; (intro g1_ w_ hq_; (try simp only [List.set_cons_zero, List.set_cons_succ] at hq_); clear HH; have HH := hid hq_; clear hq_))
        | ((with_reducible apply wpL_allocC (dst := some 2) kZ34 HH.out); rfl; (intro g2_ w_ hq_; (try simp only [List.set_cons_zero, List.set_cons_succ] at hq_); clear HH; have HH := hid hq_; clear hq_))
        | ((with_reducible apply wpL_allocC (dst := some 3) kZ34 HH.out); rfl; (intro g3_ w_ hq_; (try simp only [List.set_cons_zero, List.set_cons_succ] at hq_); clear HH; have HH := hid hq_; clear hq_))
        | ((with_reducible apply wpL_storeArr (t := 34) kS34 HH.out); rfl; rfl; (first | exact .here | exact .there .here | exact .there (.there .here) | exact .there (.there (.there .here)) | exact .there (.there (.there (.there .here))) | exact .there (.there (.there (.there (.there .here)))) | exact .there (.there (.there (.there (.there (.there .here))))) | exact .there (.there (.there (.there (.there (.there (.there .here))))))); (first | rfl | exact Arr.len _ | (simp; done)); rfl; (intro w_ hq_; (try simp only [List.set_cons_zero, List.set_cons_succ] at hq_); clear HH; have HH := hid hq_; clear hq_))
        | ((with_reducible apply wpL_storeC (t := 34)); rfl; rfl; (exact kS34); (exact HH.out); (first | exact .here | exact .there .here | exact .there (.there .here) | exact .there (.there (.there .here)) | exact .there (.there (.there (.there .here))) | exact .there (.there (.there (.there (.there .here)))) | exact .there (.there (.there (.there (.there (.there .here))))) | exact .there (.there (.there (.there (.there (.there (.there .here))))))); (first | rfl | exact Arr.len _ | (simp; done)); (first | rfl | (intro u_ hu_; simp only [List.mem_cons, List.not_mem_nil, or_false] at hu_; rcases hu_ with rfl | hu_; rfl) | exact byt_cell1 _ | exact cells_one _ | exact wrd_one _ | exact flat_cell1 _); (first | rfl | exact Arr.len _ | (simp; done)); rfl; (intro w_ hq_; (try simp only [List.set_cons_zero, List.set_cons_succ] at hq_); clear HH; have HH := hid hq_; clear hq_))
        | ((with_reducible apply wpL_move); rfl; rfl)
        | ((with_reducible apply wpL_assign); rfl; rfl)
        | ((with_reducible apply wpL_pick); rfl; rfl; rfl)
        | ((with_reducible apply wpL_not); rfl; rfl)
        | ((with_reducible apply wpL_cmp (b := true)); rfl; rfl; rfl; (first | rfl | assumption | (simp only [cmpB, decide_eq_true_eq, decide_eq_false_iff_not, beq_iff_eq, bne_iff_ne, ne_eq, beq_eq_false_iff_ne, bne_eq_false_iff_eq, gt_iff_lt, ge_iff_le]; omega) | (simp; omega)); rfl)
        | ((with_reducible apply wpL_cmp (b := false)); rfl; rfl; rfl; (first | rfl | assumption | (simp only [cmpB, decide_eq_true_eq, decide_eq_false_iff_not, beq_iff_eq, bne_iff_ne, ne_eq, beq_eq_false_iff_ne, bne_eq_false_iff_eq, gt_iff_lt, ge_iff_le]; omega) | (simp; omega)); rfl)
        | ((with_reducible apply wpL_cmp); rfl; rfl; rfl; rfl; rfl)
        | ((with_reducible apply wpL_arith); rfl; rfl; rfl; (exact IntWalk.i64_in _ (by (try simp only [arithI]); omega)); rfl)); (try simp only [arithI, Act.put, Act.eval, List.setIfInBounds_toArray, List.set_cons_succ, List.set_cons_zero, Array.getD_eq_getD_getElem?, List.getElem?_toArray, List.getElem?_cons_succ, List.getElem?_cons_zero, Option.getD_some])))
  refine wp_region_tailR 19 [Asr.is (.int .i64 0), Asr.is (.bool true), Asr.is (.bool true), Asr.is a.val, Asr.is b.val, Asr.is (.bool true), Asr.is (.bool true), Asr.is (.bool true), Asr.is r.val, Asr.is a.val, Asr.is b.val, Asr.is r.val, Asr.is (.bool true), Asr.is (.bool true), Asr.is (.bool true), Asr.is r.val, Asr.is b.val, Asr.is a.val, Asr.full w_.heap.size 34 16 1 (flat [a])] HH.out (by kernel_rfl) (by kernel_rfl) (by kernel_rfl) rfl ?_ ?_
  all_goals simp only [List.take_succ_cons, List.take_zero, List.drop_succ_cons, List.drop_zero]
  · refine eachD_cons ?_ (eachD_cons ?_ (eachD_cons ?_ (eachD_cons ?_ (eachD_cons ?_ (eachD_cons ?_ (eachD_cons ?_ (eachD_cons ?_ (eachD_cons ?_ (eachD_cons ?_ (eachD_cons ?_ (eachD_cons ?_ (eachD_cons ?_ (eachD_cons ?_ (eachD_cons ?_ (eachD_cons ?_ (eachD_cons ?_ (eachD_cons ?_ (eachD_cons ?_ (eachD_nil)))))))))))))))))))
    · intro a_ w1 hI hF hS
      have e4 : a_.eval (.tmp 4) = (.int .i64 0) := (hF.2.2 4 (notDst_of (by kernel_rfl))).trans rfl
      refine wantD (by rfl) ?_
      exact op_val rfl (ex_move rfl w1) e4
    · intro a_ w1 hI hF hS
      have e18 : a_.eval (.tmp 18) = (.int .i64 0) := hS ⟨0, .data⟩ (by simp) rfl _ rfl
      refine wantD (by rfl) ?_
      exact op_val rfl (ex_cmp (b := true) rfl e18 (by rfl) (by rfl) w1) rfl
    · intro a_ w1 hI hF hS
      have e19 : a_.eval (.tmp 19) = (.bool true) := hS ⟨1, .data⟩ (by simp) rfl _ rfl
      refine wantD (by rfl) ?_
      exact op_val rfl (ex_move rfl w1) e19
    · intro a_ w1 hI hF hS
      have e1 : a_.eval (.tmp 1) = (.pointer (some ⟨g1_, 0, none⟩)) := (hF.2.2 1 (notDst_of (by kernel_rfl))).trans rfl
      have e20 : a_.eval (.tmp 20) = (.bool true) := hS ⟨2, .guard⟩ (by simp) rfl _ rfl
      refine wantD (wanted_of (j := 2) (b := true) (want := true) (by rfl) (by rfl) e20 rfl) ?_
      exact op_val rfl (ex_loadA kA34 hI.1 e1 (by first | exact .here | exact .there .here | exact .there (.there .here))) rfl
    · intro a_ w1 hI hF hS
      have e2 : a_.eval (.tmp 2) = (.pointer (some ⟨g2_, 0, none⟩)) := (hF.2.2 2 (notDst_of (by kernel_rfl))).trans rfl
      have e20 : a_.eval (.tmp 20) = (.bool true) := hS ⟨2, .guard⟩ (by simp) rfl _ rfl
      refine wantD (wanted_of (j := 2) (b := true) (want := true) (by rfl) (by rfl) e20 rfl) ?_
      exact op_val rfl (ex_loadA kA34 hI.1 e2 (by first | exact .here | exact .there .here | exact .there (.there .here))) rfl
    · intro a_ w1 hI hF hS
      have e21 : a_.eval (.tmp 21) = a.val := hS ⟨3, .data⟩ (by simp) rfl _ rfl
      have e22 : a_.eval (.tmp 22) = b.val := hS ⟨4, .data⟩ (by simp) rfl _ rfl
      have e20 : a_.eval (.tmp 20) = (.bool true) := hS ⟨2, .guard⟩ (by simp) rfl _ rfl
      refine wantD (wanted_of (j := 2) (b := true) (want := true) (by rfl) (by rfl) e20 rfl) ?_
      exact op_val rfl (ex_neq_arr Try.underlying34 Try.underlying5 (by kernel_rfl) (by kernel_rfl) e21 e22 w1) (congrArg Value.bool HNE.out)
    · intro a_ w1 hI hF hS
      have e20 : a_.eval (.tmp 20) = (.bool true) := hS ⟨2, .data⟩ (by simp) rfl _ rfl
      have e23 : a_.eval (.tmp 23) = (.bool true) := hS ⟨5, .data⟩ (by simp) rfl _ rfl
      refine wantD (by rfl) ?_
      exact op_val rfl (ex_pick e20 rfl w1) e23
    · intro a_ w1 hI hF hS
      have e24 : a_.eval (.tmp 24) = (.bool true) := hS ⟨6, .data⟩ (by simp) rfl _ rfl
      refine wantD (by rfl) ?_
      exact op_val rfl (ex_move rfl w1) e24
    · intro a_ w1 hI hF hS
      have e3 : a_.eval (.tmp 3) = (.pointer (some ⟨g3_, 0, none⟩)) := (hF.2.2 3 (notDst_of (by kernel_rfl))).trans rfl
      have e25 : a_.eval (.tmp 25) = (.bool true) := hS ⟨7, .guard⟩ (by simp) rfl _ rfl
      refine wantD (wanted_of (j := 7) (b := true) (want := true) (by rfl) (by rfl) e25 rfl) ?_
      exact op_val rfl (ex_loadA kA34 hI.1 e3 (by first | exact .here | exact .there .here | exact .there (.there .here))) rfl
    · intro a_ w1 hI hF hS
      have e1 : a_.eval (.tmp 1) = (.pointer (some ⟨g1_, 0, none⟩)) := (hF.2.2 1 (notDst_of (by kernel_rfl))).trans rfl
      have e25 : a_.eval (.tmp 25) = (.bool true) := hS ⟨7, .guard⟩ (by simp) rfl _ rfl
      refine wantD (wanted_of (j := 7) (b := true) (want := true) (by rfl) (by rfl) e25 rfl) ?_
      exact op_val rfl (ex_loadA kA34 hI.1 e1 (by first | exact .here | exact .there .here | exact .there (.there .here))) rfl
    · intro a_ w1 hI hF hS
      have e2 : a_.eval (.tmp 2) = (.pointer (some ⟨g2_, 0, none⟩)) := (hF.2.2 2 (notDst_of (by kernel_rfl))).trans rfl
      have e25 : a_.eval (.tmp 25) = (.bool true) := hS ⟨7, .guard⟩ (by simp) rfl _ rfl
      refine wantD (wanted_of (j := 7) (b := true) (want := true) (by rfl) (by rfl) e25 rfl) ?_
      exact op_val rfl (ex_loadA kA34 hI.1 e2 (by first | exact .here | exact .there .here | exact .there (.there .here))) rfl
    · intro a_ w1 hI hF hS
      have e27 : a_.eval (.tmp 27) = a.val := hS ⟨9, .data⟩ (by simp) rfl _ rfl
      have e28 : a_.eval (.tmp 28) = b.val := hS ⟨10, .data⟩ (by simp) rfl _ rfl
      have e25 : a_.eval (.tmp 25) = (.bool true) := hS ⟨7, .chain⟩ (by simp) rfl _ rfl
      refine wantD (wanted_of (j := 7) (b := true) (want := true) (by rfl) (by rfl) e25 rfl) ?_
      exact op_call (args := #[.int .i64 1, a.val, b.val]) kB37 (by show #[_, a_.eval (.tmp 27), a_.eval (.tmp 28)] = _; rw [e27, e28]; rfl) ((join_any w1 1 a b).mono fun e w' ⟨he, hb⟩ => ⟨_, he, hb, by rw [HJ.out]; rfl⟩)
    · intro a_ w1 hI hF hS
      have e26 : a_.eval (.tmp 26) = r.val := hS ⟨8, .data⟩ (by simp) rfl _ rfl
      have e29 : a_.eval (.tmp 29) = r.val := hS ⟨11, .data⟩ (by simp) rfl _ rfl
      have e25 : a_.eval (.tmp 25) = (.bool true) := hS ⟨7, .guard⟩ (by simp) rfl _ rfl
      refine wantD (wanted_of (j := 7) (b := true) (want := true) (by rfl) (by rfl) e25 rfl) ?_
      exact op_val rfl (ex_eql_arr Try.underlying34 Try.underlying5 (by kernel_rfl) (by kernel_rfl) e26 e29 w1) (congrArg Value.bool (arrRefl _))
    · intro a_ w1 hI hF hS
      have e25 : a_.eval (.tmp 25) = (.bool true) := hS ⟨7, .data⟩ (by simp) rfl _ rfl
      have e30 : a_.eval (.tmp 30) = (.bool true) := hS ⟨12, .data⟩ (by simp) rfl _ rfl
      refine wantD (by rfl) ?_
      exact op_val rfl (ex_pick e25 rfl w1) e30
    · intro a_ w1 hI hF hS
      have e31 : a_.eval (.tmp 31) = (.bool true) := hS ⟨13, .data⟩ (by simp) rfl _ rfl
      refine wantD (by rfl) ?_
      exact op_val rfl (ex_move rfl w1) e31
    · intro a_ w1 hI hF hS
      have e3 : a_.eval (.tmp 3) = (.pointer (some ⟨g3_, 0, none⟩)) := (hF.2.2 3 (notDst_of (by kernel_rfl))).trans rfl
      have e32 : a_.eval (.tmp 32) = (.bool true) := hS ⟨14, .guard⟩ (by simp) rfl _ rfl
      refine wantD (wanted_of (j := 14) (b := true) (want := true) (by rfl) (by rfl) e32 rfl) ?_
      exact op_val rfl (ex_loadA kA34 hI.1 e3 (by first | exact .here | exact .there .here | exact .there (.there .here))) rfl
    · intro a_ w1 hI hF hS
      have e2 : a_.eval (.tmp 2) = (.pointer (some ⟨g2_, 0, none⟩)) := (hF.2.2 2 (notDst_of (by kernel_rfl))).trans rfl
      have e32 : a_.eval (.tmp 32) = (.bool true) := hS ⟨14, .guard⟩ (by simp) rfl _ rfl
      refine wantD (wanted_of (j := 14) (b := true) (want := true) (by rfl) (by rfl) e32 rfl) ?_
      exact op_val rfl (ex_loadA kA34 hI.1 e2 (by first | exact .here | exact .there .here | exact .there (.there .here))) rfl
    · intro a_ w1 hI hF hS
      have e1 : a_.eval (.tmp 1) = (.pointer (some ⟨g1_, 0, none⟩)) := (hF.2.2 1 (notDst_of (by kernel_rfl))).trans rfl
      have e32 : a_.eval (.tmp 32) = (.bool true) := hS ⟨14, .guard⟩ (by simp) rfl _ rfl
      refine wantD (wanted_of (j := 14) (b := true) (want := true) (by rfl) (by rfl) e32 rfl) ?_
      exact op_val rfl (ex_loadA kA34 hI.1 e1 (by first | exact .here | exact .there .here | exact .there (.there .here))) rfl
    · intro a_ w1 hI hF hS
      have e35 : a_.eval (.tmp 35) = a.val := hS ⟨17, .data⟩ (by simp) rfl _ rfl
      have e32 : a_.eval (.tmp 32) = (.bool true) := hS ⟨14, .guard⟩ (by simp) rfl _ rfl
      refine wantD (wanted_of (j := 14) (b := true) (want := true) (by rfl) (by rfl) e32 rfl) ?_
      obtain ⟨v_, w_, hr_, hb_, hA_⟩ := ex_buildArr (ρ := a_.eval) kE46 [a] (parts := #[(0, .tmp 35)]) (n := 1) rfl (by simp [e35]) (by decide) w1; exact op_new rfl hr_ hb_ (hA_ _ hI.2.size)
  intro wq hq_ hb_
  intro v0_ h0_ v1_ h1_ v2_ h2_ v3_ h3_ v4_ h4_ v5_ h5_ v6_ h6_ v7_ h7_ v8_ h8_ v9_ h9_ v10_ h10_ v11_ h11_ v12_ h12_ v13_ h13_ v14_ h14_ v15_ h15_ v16_ h16_ v17_ h17_ v18_ h18_
  have q_ : v0_ = (.int .i64 0) := h0_; clear h0_; subst q_
  have q_ : v1_ = (.bool true) := h1_; clear h1_; subst q_
  have q_ : v2_ = (.bool true) := h2_; clear h2_; subst q_
  have q_ : v3_ = a.val := h3_; clear h3_; subst q_
  have q_ : v4_ = b.val := h4_; clear h4_; subst q_
  have q_ : v5_ = (.bool true) := h5_; clear h5_; subst q_
  have q_ : v6_ = (.bool true) := h6_; clear h6_; subst q_
  have q_ : v7_ = (.bool true) := h7_; clear h7_; subst q_
  have q_ : v8_ = r.val := h8_; clear h8_; subst q_
  have q_ : v9_ = a.val := h9_; clear h9_; subst q_
  have q_ : v10_ = b.val := h10_; clear h10_; subst q_
  have q_ : v11_ = r.val := h11_; clear h11_; subst q_
  have q_ : v12_ = (.bool true) := h12_; clear h12_; subst q_
  have q_ : v13_ = (.bool true) := h13_; clear h13_; subst q_
  have q_ : v14_ = (.bool true) := h14_; clear h14_; subst q_
  have q_ : v15_ = r.val := h15_; clear h15_; subst q_
  have q_ : v16_ = b.val := h16_; clear h16_; subst q_
  have q_ : v17_ = a.val := h17_; clear h17_; subst q_
  have K18 := hid h18_; clear h18_
  simp only [endD, putsD, Act.put, List.setIfInBounds_toArray, List.set_cons_succ, List.set_cons_zero]
  have HQ := hid hq_; clear hq_
  have HB_ := hid hb_; clear hb_
  obtain ⟨aa, ca, rfl⟩ := row_shape K18.out.2
  have hq2_ := HH.out.addRow HB_.out K18.out.2
  clear HH HQ K18 HB_
  have HH := hid hq2_
  clear hq2_
  go_wp2_with (first
    | ((first
        | ((with_reducible apply wpL_skip); rfl; skip)
        | (go_at_call 53; (have hcall_ := hid (verify_any _ (.slice aa 1 ca) r b 1 [a] HH.out.sl0 (by simp))); (with_reducible refine hcall_.out.mono ?_); clear hcall_; rw [HV.out]; rintro e_ w2_ ⟨rfl, hb_⟩; (have hq_ := HH.out.grow hb_); clear HH; have HH := hid hq_; clear hq_ hb_)
        | ((with_reducible apply wpL_nilCheck); rfl; rfl)
        | ((with_reducible apply wpL_loadArr (t := 34) kA34 HH.out); rfl; (first | exact .here | exact .there .here | exact .there (.there .here) | exact .there (.there (.there .here)) | exact .there (.there (.there (.there .here))) | exact .there (.there (.there (.there (.there .here)))) | exact .there (.there (.there (.there (.there (.there .here))))) | exact .there (.there (.there (.there (.there (.there (.there .here))))))); rfl)
        | ((with_reducible apply wpL_loadC (t := 34) kA34 HH.out); rfl; (first | exact .here | exact .there .here | exact .there (.there .here) | exact .there (.there (.there .here)) | exact .there (.there (.there (.there .here))) | exact .there (.there (.there (.there (.there .here)))) | exact .there (.there (.there (.there (.there (.there .here))))) | exact .there (.there (.there (.there (.there (.there (.there .here))))))); (first | rfl | exact Arr.len _ | (simp; done)); rfl)
        | ((with_reducible apply wpL_allocC (dst := some 1) kZ34 HH.out); rfl; (intro g1_ w_ hq_; (try simp only [List.set_cons_zero, List.set_cons_succ] at hq_); clear HH; have HH := hid hq_; clear hq_))
        | ((with_reducible apply wpL_allocC (dst := some 2) kZ34 HH.out); rfl; (intro g2_ w_ hq_; (try simp only [List.set_cons_zero, List.set_cons_succ] at hq_); clear HH; have HH := hid hq_; clear hq_))
        | ((with_reducible apply wpL_allocC (dst := some 3) kZ34 HH.out); rfl; (intro g3_ w_ hq_; (try simp only [List.set_cons_zero, List.set_cons_succ] at hq_); clear HH; have HH := hid hq_; clear hq_))
        | ((with_reducible apply wpL_storeArr (t := 34) kS34 HH.out); rfl; rfl; (first | exact .here | exact .there .here | exact .there (.there .here) | exact .there (.there (.there .here)) | exact .there (.there (.there (.there .here))) | exact .there (.there (.there (.there (.there .here)))) | exact .there (.there (.there (.there (.there (.there .here))))) | exact .there (.there (.there (.there (.there (.there (.there .here))))))); (first | rfl | exact Arr.len _ | (simp; done)); rfl; (intro w_ hq_; (try simp only [List.set_cons_zero, List.set_cons_succ] at hq_); clear HH; have HH := hid hq_; clear hq_))
        | ((with_reducible apply wpL_storeC (t := 34)); rfl; rfl; (exact kS34); (exact HH.out); (first | exact .here | exact .there .here | exact .there (.there .here) | exact .there (.there (.there .here)) | exact .there (.there (.there (.there .here))) | exact .there (.there (.there (.there (.there .here)))) | exact .there (.there (.there (.there (.there (.there .here))))) | exact .there (.there (.there (.there (.there (.there (.there .here))))))); (first | rfl | exact Arr.len _ | (simp; done)); (first | rfl | (intro u_ hu_; simp only [List.mem_cons, List.not_mem_nil, or_false] at hu_; rcases hu_ with rfl | hu_; rfl) | exact byt_cell1 _ | exact cells_one _ | exact wrd_one _ | exact flat_cell1 _); (first | rfl | exact Arr.len _ | (simp; done)); rfl; (intro w_ hq_; (try simp only [List.set_cons_zero, List.set_cons_succ] at hq_); clear HH; have HH := hid hq_; clear hq_))
        | ((with_reducible apply wpL_move); rfl; rfl)
        | ((with_reducible apply wpL_assign); rfl; rfl)
        | ((with_reducible apply wpL_pick); rfl; rfl; rfl)
        | ((with_reducible apply wpL_not); rfl; rfl)
        | ((with_reducible apply wpL_cmp (b := true)); rfl; rfl; rfl; (first | rfl | assumption | (simp only [cmpB, decide_eq_true_eq, decide_eq_false_iff_not, beq_iff_eq, bne_iff_ne, ne_eq, beq_eq_false_iff_ne, bne_eq_false_iff_eq, gt_iff_lt, ge_iff_le]; omega) | (simp; omega)); rfl)
        | ((with_reducible apply wpL_cmp (b := false)); rfl; rfl; rfl; (first | rfl | assumption | (simp only [cmpB, decide_eq_true_eq, decide_eq_false_iff_not, beq_iff_eq, bne_iff_ne, ne_eq, beq_eq_false_iff_ne, bne_eq_false_iff_eq, gt_iff_lt, ge_iff_le]; omega) | (simp; omega)); rfl)
        | ((with_reducible apply wpL_cmp); rfl; rfl; rfl; rfl; rfl)
        | ((with_reducible apply wpL_arith); rfl; rfl; rfl; (exact IntWalk.i64_in _ (by (try simp only [arithI]); omega)); rfl)); (try simp only [arithI, Act.put, Act.eval, List.setIfInBounds_toArray, List.set_cons_succ, List.set_cons_zero, Array.getD_eq_getD_getElem?, List.getElem?_toArray, List.getElem?_cons_succ, List.getElem?_cons_zero, Option.getD_some])))
  go_ret
  exact RetB.mk rfl HH.out.dropRow.dropBlk.dropBlk.dropBlk.below
end Go.Proofs.Ytgkfopodhikckaa

/- Elements of an array that lies in a variable; the law MerkleNodes. Condition: at most 300 bytes. -/
namespace Go.Proofs.Ytgkfopodhikckaa
open Go.RowKit
attribute [local irreducible] wpQuiet wpList
section
variable {P : Program} {w0 w : World} {S : List Nat} {bs bs' : List (Nat × Obj)} {rows : List Row} {ops : Array Oper} {rest : List Oper} {a : Act} {Q : Exit → Act → World → Prop} {C : World → Prop} {K : Act → Prop} {ρ : Operand → Value} {dst : Option Tmp} {ty : TypeId} {pos : String} {after : Array Edge} {guard : Option (Nat × Bool)}
theorem ex_indexE {t e : TypeId} {n sz : Nat} {x i : Operand} {g j m : Nat} {q : Int} {k : IntKind} (ht : P.underlying t = some (.array n e)) (he : (P.info? e).map (·.size) = some sz) (h0 : 0 < sz) (hx : ρ x = .pointer (some ⟨g, j, none⟩))
    (hi : ρ i = .int k q) (hq : q = (m : Int)) (hm : m < n) (w : World) :
    (execOp ρ { dst := dst, op := .indexAddr t x i, type := ty, pos := pos, after := after, guard := guard }).run P w = .ok (.value (.pointer (some ⟨g, j + m * sz, none⟩))) w := by
  subst hq
  have hadd : (⟨g, j, none⟩ : Addr).add (m * sz) = ⟨g, j + m * sz, none⟩ := by unfold Addr.add; split <;> simp_all
  have hc : (0 : Int) ≤ (m : Int) ∧ (m : Int) < n := by omega
  simp only [execOp, hx, hi, Instr.indexAt, asIntOf, Sem.run_bind, Sem.run_pure, Result.andThen_ok, run_underlying ht, Instr.sureAddr, run_sizeOf he, hc, and_self, if_true, Int.toNat_natCast, hadd]
theorem wpQ_indexE {t e : TypeId} {n sz : Nat} {x i : Operand} {g j m : Nat} {q : Int} {k : IntKind} (ht : P.underlying t = some (.array n e)) (he : (P.info? e).map (·.size) = some sz) (h0 : 0 < sz) (hx : a.eval x = .pointer (some ⟨g, j, none⟩)) (hi : a.eval i = .int k q) (hq : q = (m : Int)) (hm : m < n)
    (hg : Region.wanted { dst := dst, op := .indexAddr t x i, type := ty, pos := pos, after := after, guard := guard } (yielded ops a.tmps) = true)
    (h : wpQuiet P ops C K rest (a.put dst (.pointer (some ⟨g, j + m * sz, none⟩)))) : wpQuiet P ops C K ({ dst := dst, op := .indexAddr t x i, type := ty, pos := pos, after := after, guard := guard } :: rest) a :=
  wpQuiet_ex hg (fun w _ => ex_indexE (ρ := a.eval) ht he h0 hx hi hq hm w) h
theorem wpL_indexE {t e : TypeId} {n sz : Nat} {x i : Operand} {g j m : Nat} {q : Int} {k : IntKind} (ht : P.underlying t = some (.array n e)) (he : (P.info? e).map (·.size) = some sz) (h0 : 0 < sz) (hx : a.eval x = .pointer (some ⟨g, j, none⟩)) (hi : a.eval i = .int k q) (hq : q = (m : Int)) (hm : m < n)
    (hg : Region.wanted { dst := dst, op := .indexAddr t x i, type := ty, pos := pos, after := after, guard := guard } (yielded ops a.tmps) = true)
    (h : wpList P ops Q rest (a.put dst (.pointer (some ⟨g, j + m * sz, none⟩))) w) : wpList P ops Q ({ dst := dst, op := .indexAddr t x i, type := ty, pos := pos, after := after, guard := guard } :: rest) a w :=
  wpList_ex hg (ex_indexE (ρ := a.eval) ht he h0 hx hi hq hm w) h
end
end Go.Proofs.Ytgkfopodhikckaa

/- From the walks of the merkle laws to their rows: lists of nodes, pairs of nodes, claims. No condition. -/
namespace Go.Proofs.Ytgkfopodhikckaa
open Go.ChangeShapes Go.WideShapes Go.ChangeAt Go.RowKit
section
variable {H : Type} {enc : TypeId × Value → H} {W : World} {base : Nat}
end
end Go.Proofs.Ytgkfopodhikckaa

/- Arrays of nodes; Pairs of the reference. Condition: at most 10^9 nodes. -/
namespace Go.Proofs.Ytgkfopodhikckaa
open Go.RowKit
attribute [local irreducible] wpQuiet wpList
section
variable {P : Program}
end
section
variable {P : Program} {w0 w : World} {S : List Nat} {bs : List (Nat × Obj)} {rows : List Row} {ops : Array Oper} {rest : List Oper} {a : Act} {Q : Exit → Act → World → Prop} {K : Act → Prop} {dst : Option Tmp} {ty : TypeId} {pos : String} {after : Array Edge} {guard : Option (Nat × Bool)}
/-- An array of bytes that is a part of a variable. -/
theorem wpL_loadPA {t : TypeId} {n : Nat} (hA : AggT P t n) (hH : Holds w0 S bs rows w) {v : Arr n} {x : Operand} {g j : Nat} {cs : List Value} {e : TypeId}
    (hx : a.eval x = .pointer (some ⟨g, j, none⟩)) (ho : Own bs g (objC cs e)) (hv : (cs.drop j).take n = v.cells)
    (hg : Region.wanted { dst := dst, op := .load t x, type := ty, pos := pos, after := after, guard := guard } (yielded ops a.tmps) = true)
    (h : wpList P ops Q rest (a.put dst v.val) w) : wpList P ops Q ({ dst := dst, op := .load t x, type := ty, pos := pos, after := after, guard := guard } :: rest) a w :=
  wpL_loadPart hA hH hx ho hv (Arr.len v) hg h
theorem wpQ_loadPA {t : TypeId} {n : Nat} (hA : AggT P t n) {v : Arr n} {x : Operand} {g j : Nat} {cs : List Value} {e : TypeId}
    (hx : a.eval x = .pointer (some ⟨g, j, none⟩)) (ho : Own bs g (objC cs e)) (hv : (cs.drop j).take n = v.cells)
    (hg : Region.wanted { dst := dst, op := .load t x, type := ty, pos := pos, after := after, guard := guard } (yielded ops a.tmps) = true)
    (h : wpQuiet P ops (fun w' => Holds w0 S bs rows w') K rest (a.put dst v.val)) : wpQuiet P ops (fun w' => Holds w0 S bs rows w') K ({ dst := dst, op := .load t x, type := ty, pos := pos, after := after, guard := guard } :: rest) a :=
  wpQ_loadPart hA hx ho hv (Arr.len v) hg h
end
def RetPr (w : World) (ps : List (Arr 32)) (r : Nd) (c : Int) (e : Ending) (w' : World) : Prop :=
  ∃ ao cap, e = .returned (.tuple #[.slice ao ps.length cap, r.val, .int .i64 c]) ∧ w'.ownsRow w.heap.size 73 32 (.slice ao ps.length cap) ps.length (flat ps) ∧ Below w.heap.size w w'
theorem RetPr.no {w w' : World} {ps : List (Arr 32)} {r d : Nd} {b c : Int} (hp : ps = []) (hr : r = d) (h : b = c) (hb : Below w.heap.size w w') : RetPr w ps d c (.returned (.tuple #[.slice none 0 0, r.val, .int .i64 b])) w' := by
  subst hp hr h
  exact ⟨none, 0, rfl, World.ownsRow_nil _ _ _ _, hb⟩
section
variable {P : Program} {w0 w : World} {S : List Nat} {bs : List (Nat × Obj)} {rows : (Nat → Bool) → (Nat → Value) → List Row} {ia is_ sl : Nat} {e : TypeId} {zs vs : List Value} {l : Nat → Bool} {a : Act} {ty : TypeId} {pos : String} {after : Array Edge} {guard : Option (Nat × Bool)}
end
end Go.Proofs.Ytgkfopodhikckaa

/- A Builder of the call's own: NewBuilder, Add, Len, Pending, Root. Condition: fewer than 1024 leaves for Add. -/
namespace Go.Proofs.Ytgkfopodhikckaa
open Go.RowKit
attribute [local irreducible] wpQuiet wpList
theorem Own.mid (pre : List (Nat × Obj)) (g : Nat) (o : Obj) (post : List (Nat × Obj)) : Own (pre ++ (g, o) :: post) g o := by
  induction pre with
  | nil => exact .here
  | cons p l ih => exact .there ih
theorem Turn.mid (pre : List (Nat × Obj)) (g : Nat) (o o' : Obj) (post : List (Nat × Obj)) : Turn (pre ++ (g, o) :: post) g o o' (pre ++ (g, o') :: post) := by
  induction pre with
  | nil => exact .here
  | cons p l ih => exact .there ih
/-- A Builder's cells. -/
abbrev bldCs (ns : List Nd) (n : Nat) : List Value := flat ns ++ [.int .i64 (n : Int)]
abbrev bldO (ns : List Nd) (n : Nat) : Obj := objC (bldCs ns n) 37
theorem bld_len {ns : List Nd} {n : Nat} (h : ns.length = 11) : (bldCs ns n).length = 177 := by rw [List.length_append, flat_len, h]; rfl
theorem bld_cnt {ns : List Nd} {n : Nat} (h : ns.length = 11) : (bldCs ns n)[0 + 176]? = some (.int .i64 (n : Int)) := by
  rw [List.getElem?_append_right (by rw [flat_len, h]; decide), flat_len, h]; rfl
theorem bld_node {ns : List Nd} {n k : Nat} {y : Nd} (h : ns.length = 11) (hk : k < 11) (hy : ns.getD k Nd0 = y) : ((bldCs ns n).drop (0 + 0 + k * 16)).take 16 = y.cells := by
  rw [show 0 + 0 + k * 16 = k * 16 by omega, List.drop_append, flat_drop, List.take_append, flat_len, List.length_drop, h]
  rw [show 16 - (11 - k) * 16 = 0 by omega, List.take_zero, List.append_nil]
  have hk' : k < ns.length := by omega
  have e : ns[k] = y := by rw [← hy]; simp [hk']
  rw [List.drop_eq_getElem_cons hk', flat_cons, e, List.take_left' (Arr.len y)]
theorem flat_set {n : Nat} (l : List (Arr n)) (y : Arr n) : ∀ k, k < l.length → flat (l.set k y) = (flat l).take (k * n) ++ y.cells ++ (flat l).drop (k * n + n) := by
  intro k hk
  rw [List.set_eq_take_append_cons_drop, if_pos hk, flat_append, flat_cons, flat_take, show k * n + n = (k + 1) * n by rw [Nat.add_mul, Nat.one_mul], flat_drop, List.append_assoc]
theorem bld_set {ns : List Nd} {n k : Nat} {y : Nd} (h : ns.length = 11) (hk : k < 11) :
    objC ((bldCs ns n).take (0 + 0 + k * 16) ++ y.cells ++ (bldCs ns n).drop (0 + 0 + k * 16 + 16)) 37 = bldO (ns.set k y) n := by
  congr 1
  rw [show 0 + 0 + k * 16 = k * 16 by omega]
  unfold bldCs
  rw [flat_set _ _ _ (by omega), List.take_append_of_le_length (by rw [flat_len, h]; omega), List.drop_append_of_le_length (by rw [flat_len, h]; omega)]
  simp only [List.append_assoc]
theorem bld_inc {ns : List Nd} {n : Nat} (h : ns.length = 11) : objC ((bldCs ns n).set (0 + 176) (.int .i64 ((n : Int) + 1))) 37 = bldO ns (n + 1) := by
  congr 1
  unfold bldCs
  rw [List.set_append_right _ _ (by rw [flat_len, h]; decide), flat_len, h]
  rfl
/-- How many low bits are set. -/
def lowB (n : Nat) : Nat := if n % 2 = 1 then lowB (n / 2) + 1 else 0
theorem lowB_odd {q : Nat} (h : q % 2 = 1) : lowB q = lowB (q / 2) + 1 := by rw [lowB, if_pos h]
theorem lowB_even {q : Nat} (h : ¬ q % 2 = 1) : lowB q = 0 := by rw [lowB, if_neg h]
theorem lowB_all : ∀ n : Fin 1024, lowB n.1 ≤ 10 := by decide +kernel
def curB (ns : List Nd) (x : Nd) : Nat → Nd
  | 0 => x
  | k + 1 => joinN ((k : Int) + 1) (ns.getD k Nd0) (curB ns x k)
/-- The nodes behind one more leaf. -/
def addNs (ns : List Nd) (n : Nat) (x : Nd) : List Nd := ns.set (lowB n) (curB ns x (lowB n))
theorem addNs_len (ns : List Nd) (n : Nat) (x : Nd) : (addNs ns n x).length = ns.length := by simp [addNs]
def BAddRel (w0 : World) (S : List Nat) (pre post : List (Nat × Obj)) (rows : List Row) (g n : Nat) (ns : List Nd) (x : Nd) (g3 : Nat) (kv : Value) (wr : World) : Prop :=
  ∃ k : Nat, kv = .int .i64 k ∧ lowB n = k + lowB (n / 2 ^ k) ∧ Holds w0 S ((g3, objC (curB ns x k).cells 34) :: (pre ++ (g, bldO ns n) :: post)) rows wr
set_option maxRecDepth 100000 in
set_option maxHeartbeats 4000000 in
theorem add_any (w0 w : World) (S : List Nat) (pre post : List (Nat × Obj)) (rows : List Row) (g n : Nat) (ns : List Nd) (x : Nd) (hlen : ns.length = 11) (hn : n < 1024) (hH : Holds w0 S (pre ++ (g, bldO ns n) :: post) rows w) :
    Calls Try.prog 31 #[.pointer (some ⟨g, 0, none⟩), x.val] w (fun e w' => e = .returned (.int .i64 0) ∧ Holds w0 S (pre ++ (g, bldO (addNs ns n x) (n + 1)) :: post) rows w') := by
  have HH := hid hH
  have HLEN := hid hlen
  have hlow : lowB n ≤ 10 := lowB_all ⟨n, hn⟩
  clear hH hlen
  go_enter Try.func31, Try.ntmps31
  go_wp2_with (first
    | ((first
        | ((with_reducible apply wpL_skip); rfl; skip)
        | ((with_reducible apply wpL_load1 (t := 3) (v := .int .i64 (n : Int)) kO3 HH.out); rfl; (exact .there (Own.mid pre g _ post)); (exact bld_cnt HLEN.out); rfl)
        | ((with_reducible apply wpL_nilCheck); rfl; rfl)
        | ((with_reducible apply wpL_fieldAddr); (first | exact kF37_0 | exact kF37_1); rfl; rfl)
        | ((with_reducible apply wpL_load1 (t := 3) kO3 HH.out); rfl; (first | exact .here | exact .there .here | exact .there (.there .here) | exact .there (.there (.there .here)) | exact .there (.there (.there (.there .here))) | exact .there (.there (.there (.there (.there .here)))) | exact .there (.there (.there (.there (.there (.there .here))))) | exact .there (.there (.there (.there (.there (.there (.there .here))))))); rfl; rfl)
        | ((with_reducible apply wpL_loadArr (t := 34) kA34 HH.out); rfl; (first | exact .here | exact .there .here | exact .there (.there .here) | exact .there (.there (.there .here)) | exact .there (.there (.there (.there .here))) | exact .there (.there (.there (.there (.there .here)))) | exact .there (.there (.there (.there (.there (.there .here))))) | exact .there (.there (.there (.there (.there (.there (.there .here))))))); rfl)
        | ((with_reducible apply wpL_loadC (t := 34) kA34 HH.out); rfl; (first | exact .here | exact .there .here | exact .there (.there .here) | exact .there (.there (.there .here)) | exact .there (.there (.there (.there .here))) | exact .there (.there (.there (.there (.there .here)))) | exact .there (.there (.there (.there (.there (.there .here))))) | exact .there (.there (.there (.there (.there (.there (.there .here))))))); (first | rfl | exact Arr.len _ | (simp; done)); rfl)
        | ((with_reducible apply wpL_boxArr (dst := some 3)); rfl; (exact HH.out); rfl; (intro g3_ w_ hq_; (try simp only [List.set_cons_zero, List.set_cons_succ] at hq_); clear HH; have HH := hid hq_; clear hq_))
        | ((with_reducible apply wpL_store1 (t := 3)); rfl; rfl; rfl; (exact kS3); (exact HH.out); (first | exact .here | exact .there .here | exact .there (.there .here) | exact .there (.there (.there .here)) | exact .there (.there (.there (.there .here))) | exact .there (.there (.there (.there (.there .here)))) | exact .there (.there (.there (.there (.there (.there .here))))) | exact .there (.there (.there (.there (.there (.there (.there .here))))))); rfl; (first | exact Nat.le_of_ble_eq_true rfl | (simp; done) | omega); rfl; (intro w_ hq_; (try simp only [List.set_cons_zero, List.set_cons_succ] at hq_); clear HH; have HH := hid hq_; clear hq_))
        | ((with_reducible apply wpL_storeArr (t := 34) kS34 HH.out); rfl; rfl; (first | exact .here | exact .there .here | exact .there (.there .here) | exact .there (.there (.there .here)) | exact .there (.there (.there (.there .here))) | exact .there (.there (.there (.there (.there .here)))) | exact .there (.there (.there (.there (.there (.there .here))))) | exact .there (.there (.there (.there (.there (.there (.there .here))))))); (first | rfl | exact Arr.len _ | (simp; done)); rfl; (intro w_ hq_; (try simp only [List.set_cons_zero, List.set_cons_succ] at hq_); clear HH; have HH := hid hq_; clear hq_))
        | ((with_reducible apply wpL_storeC (t := 34)); rfl; rfl; (exact kS34); (exact HH.out); (first | exact .here | exact .there .here | exact .there (.there .here) | exact .there (.there (.there .here)) | exact .there (.there (.there (.there .here))) | exact .there (.there (.there (.there (.there .here)))) | exact .there (.there (.there (.there (.there (.there .here))))) | exact .there (.there (.there (.there (.there (.there (.there .here))))))); (first | rfl | exact Arr.len _ | (simp; done)); (first | rfl | (intro u_ hu_; simp only [List.mem_cons, List.not_mem_nil, or_false] at hu_; rcases hu_ with rfl | hu_; rfl) | exact byt_cell1 _ | exact cells_one _ | exact wrd_one _ | exact flat_cell1 _); (first | rfl | exact Arr.len _ | (simp; done)); rfl; (intro w_ hq_; (try simp only [List.set_cons_zero, List.set_cons_succ] at hq_); clear HH; have HH := hid hq_; clear hq_))
        | ((with_reducible apply wpL_move); rfl; rfl)
        | ((with_reducible apply wpL_assign); rfl; rfl)
        | ((with_reducible apply wpL_pick); rfl; rfl; rfl)
        | ((with_reducible apply wpL_not); rfl; rfl)
        | ((with_reducible apply wpL_cmp (b := true)); rfl; rfl; rfl; (first | rfl | assumption | (simp only [cmpB, decide_eq_true_eq, decide_eq_false_iff_not, beq_iff_eq, bne_iff_ne, ne_eq, beq_eq_false_iff_ne, bne_eq_false_iff_eq, gt_iff_lt, ge_iff_le]; omega) | (simp; omega)); rfl)
        | ((with_reducible apply wpL_cmp (b := false)); rfl; rfl; rfl; (first | rfl | assumption | (simp only [cmpB, decide_eq_true_eq, decide_eq_false_iff_not, beq_iff_eq, bne_iff_ne, ne_eq, beq_eq_false_iff_ne, bne_eq_false_iff_eq, gt_iff_lt, ge_iff_le]; omega) | (simp; omega)); rfl)
        | ((with_reducible apply wpL_cmp); rfl; rfl; rfl; rfl; rfl)
        | ((with_reducible apply wpL_arith); rfl; rfl; rfl; (exact IntWalk.i64_in _ (by (try simp only [arithI]); omega)); rfl)); (try simp only [arithI, Act.put, Act.eval, List.setIfInBounds_toArray, List.set_cons_succ, List.set_cons_zero, Array.getD_eq_getD_getElem?, List.getElem?_toArray, List.getElem?_cons_succ, List.getElem?_cons_zero, Option.getD_some])))
  go_loopw [5] (BAddRel w0 S pre post rows g n ns x g3_) (fun kv _ => 11 - (intOf kv).toNat)
  case atStart => exact ⟨0, rfl, by rw [Nat.pow_zero, Nat.div_one, Nat.zero_add], HH.out⟩
  case round =>
    obtain ⟨k, rfl, hk, hr⟩ := hrel
    clear HH
    have HH := hid hr
    have HK := hid hk
    have hk10 : k ≤ 10 := by omega
    clear hr hk
    obtain ⟨q, hq⟩ : ∃ q, n / 2 ^ k = q := ⟨_, rfl⟩
    have hq10 : q ≤ 1024 := by rw [← hq]; exact Nat.le_trans (Nat.div_le_self _ _) (by omega)
    have HQ1 := hid hq
    have HB1 := hid (show q < 2 ^ IntKind.i64.bits from Nat.lt_of_lt_of_le (show q < 1025 by omega) (by decide))
    obtain ⟨c, hc⟩ : ∃ c, curB ns x k = c := ⟨_, rfl⟩
    have hh := HH.out
    rw [hc] at hh
    clear HH
    have HH := hid hh
    clear hh
    by_cases hbit : q % 2 = 1
    · have HAND := hid (show q &&& 1 = 1 by rw [Nat.and_one_is_mod]; exact hbit)
      have HK2 := hid (show lowB n = (k + 1) + lowB (n / 2 ^ (k + 1)) by
        have h1 := HK.out
        rw [hq, lowB_odd hbit] at h1
        rw [Nat.pow_succ, ← Nat.div_div_eq_div_mul, hq]
        omega)
      have hk9 : k + 1 ≤ 10 := by have := HK2.out; omega
      obtain ⟨y, hy⟩ : ∃ y, ns.getD k Nd0 = y := ⟨_, rfl⟩
      obtain ⟨c2, hc2⟩ : ∃ c2, joinN ((k : Int) + 1) y c = c2 := ⟨_, rfl⟩
      have HY := hid hy
      have HC2 := hid hc2
      have HST := hid (show curB ns x (k + 1) = c2 by rw [curB, hy, hc]; exact hc2)
      clear hy hc2 hbit hq hc
      go_wp2_with (first
        | ((first
            | ((with_reducible apply wpL_skip); rfl; skip)
            | ((with_reducible apply wpL_load1 (t := 3) (v := .int .i64 (n : Int)) kO3 HH.out); rfl; (exact .there (Own.mid pre g _ post)); (exact bld_cnt HLEN.out); rfl)
            | ((with_reducible apply wpL_shrI (m := n) (k := k) (r := q)); rfl; rfl; rfl; rfl; (exact (by omega)); (exact HQ1.out); rfl)
            | ((with_reducible apply wpL_and (m := q) (n := 1) (r := 1)); rfl; rfl; rfl; rfl; (exact HB1.out); (exact (by decide)); (exact HAND.out); (exact (by decide)); rfl)
            | ((with_reducible apply wpL_nilCheck); rfl; rfl)
            | ((with_reducible apply wpL_fieldAddr); (first | exact kF37_0 | exact kF37_1); rfl; rfl)
            | ((with_reducible apply wpL_load1 (t := 3) kO3 HH.out); rfl; (first | exact .here | exact .there .here | exact .there (.there .here) | exact .there (.there (.there .here)) | exact .there (.there (.there (.there .here))) | exact .there (.there (.there (.there (.there .here)))) | exact .there (.there (.there (.there (.there (.there .here))))) | exact .there (.there (.there (.there (.there (.there (.there .here))))))); rfl; rfl)
            | ((with_reducible apply wpL_loadArr (t := 34) kA34 HH.out); rfl; (first | exact .here | exact .there .here | exact .there (.there .here) | exact .there (.there (.there .here)) | exact .there (.there (.there (.there .here))) | exact .there (.there (.there (.there (.there .here)))) | exact .there (.there (.there (.there (.there (.there .here))))) | exact .there (.there (.there (.there (.there (.there (.there .here))))))); rfl)
            | ((with_reducible apply wpL_loadC (t := 34) kA34 HH.out); rfl; (first | exact .here | exact .there .here | exact .there (.there .here) | exact .there (.there (.there .here)) | exact .there (.there (.there (.there .here))) | exact .there (.there (.there (.there (.there .here)))) | exact .there (.there (.there (.there (.there (.there .here))))) | exact .there (.there (.there (.there (.there (.there (.there .here))))))); (first | rfl | exact Arr.len _ | (simp; done)); rfl)
            | ((with_reducible apply wpL_boxArr (dst := some 3)); rfl; (exact HH.out); rfl; (intro g3_ w_ hq_; (try simp only [List.set_cons_zero, List.set_cons_succ] at hq_); clear HH; have HH := hid hq_; clear hq_))
            | ((with_reducible apply wpL_store1 (t := 3)); rfl; rfl; rfl; (exact kS3); (exact HH.out); (first | exact .here | exact .there .here | exact .there (.there .here) | exact .there (.there (.there .here)) | exact .there (.there (.there (.there .here))) | exact .there (.there (.there (.there (.there .here)))) | exact .there (.there (.there (.there (.there (.there .here))))) | exact .there (.there (.there (.there (.there (.there (.there .here))))))); rfl; (first | exact Nat.le_of_ble_eq_true rfl | (simp; done) | omega); rfl; (intro w_ hq_; (try simp only [List.set_cons_zero, List.set_cons_succ] at hq_); clear HH; have HH := hid hq_; clear hq_))
            | ((with_reducible apply wpL_storeArr (t := 34) kS34 HH.out); rfl; rfl; (first | exact .here | exact .there .here | exact .there (.there .here) | exact .there (.there (.there .here)) | exact .there (.there (.there (.there .here))) | exact .there (.there (.there (.there (.there .here)))) | exact .there (.there (.there (.there (.there (.there .here))))) | exact .there (.there (.there (.there (.there (.there (.there .here))))))); (first | rfl | exact Arr.len _ | (simp; done)); rfl; (intro w_ hq_; (try simp only [List.set_cons_zero, List.set_cons_succ] at hq_); clear HH; have HH := hid hq_; clear hq_))
            | ((with_reducible apply wpL_storeC (t := 34)); rfl; rfl; (exact kS34); (exact HH.out); (first | exact .here | exact .there .here | exact .there (.there .here) | exact .there (.there (.there .here)) | exact .there (.there (.there (.there .here))) | exact .there (.there (.there (.there (.there .here)))) | exact .there (.there (.there (.there (.there (.there .here))))) | exact .there (.there (.there (.there (.there (.there (.there .here))))))); (first | rfl | exact Arr.len _ | (simp; done)); (first | rfl | (intro u_ hu_; simp only [List.mem_cons, List.not_mem_nil, or_false] at hu_; rcases hu_ with rfl | hu_; rfl) | exact byt_cell1 _ | exact cells_one _ | exact wrd_one _ | exact flat_cell1 _); (first | rfl | exact Arr.len _ | (simp; done)); rfl; (intro w_ hq_; (try simp only [List.set_cons_zero, List.set_cons_succ] at hq_); clear HH; have HH := hid hq_; clear hq_))
            | ((with_reducible apply wpL_move); rfl; rfl)
            | ((with_reducible apply wpL_assign); rfl; rfl)
            | ((with_reducible apply wpL_pick); rfl; rfl; rfl)
            | ((with_reducible apply wpL_not); rfl; rfl)
            | ((with_reducible apply wpL_cmp (b := true)); rfl; rfl; rfl; (first | rfl | assumption | (simp only [cmpB, decide_eq_true_eq, decide_eq_false_iff_not, beq_iff_eq, bne_iff_ne, ne_eq, beq_eq_false_iff_ne, bne_eq_false_iff_eq, gt_iff_lt, ge_iff_le]; omega) | (simp; omega)); rfl)
            | ((with_reducible apply wpL_cmp (b := false)); rfl; rfl; rfl; (first | rfl | assumption | (simp only [cmpB, decide_eq_true_eq, decide_eq_false_iff_not, beq_iff_eq, bne_iff_ne, ne_eq, beq_eq_false_iff_ne, bne_eq_false_iff_eq, gt_iff_lt, ge_iff_le]; omega) | (simp; omega)); rfl)
            | ((with_reducible apply wpL_cmp); rfl; rfl; rfl; rfl; rfl)
            | ((with_reducible apply wpL_arith); rfl; rfl; rfl; (exact IntWalk.i64_in _ (by (try simp only [arithI]); omega)); rfl)); (try simp only [arithI, Act.put, Act.eval, List.setIfInBounds_toArray, List.set_cons_succ, List.set_cons_zero, Array.getD_eq_getD_getElem?, List.getElem?_toArray, List.getElem?_cons_succ, List.getElem?_cons_zero, Option.getD_some])))
      refine wp_region_tailQ 9 (by kernel_rfl) (by kernel_rfl) (by kernel_rfl) HH.out ?_
      simp only [List.take_succ_cons, List.take_zero, List.drop_succ_cons, List.drop_zero]
      repeat ((first
        | ((with_reducible apply wpQ_skip); rfl; skip)
        | ((with_reducible apply wpQ_indexE (dst := some 27) (m := k) Try.underlying35 kS34 (by decide)); rfl; rfl; rfl; (exact (by omega)); rfl)
        | ((with_reducible apply wpQ_loadPA (dst := some 28) (t := 34) (v := y) kA34); rfl; (exact .there (Own.mid _ _ _ _)); (exact bld_node HLEN.out (by omega) HY.out); rfl)
        | ((with_reducible apply wpQ_nilCheck); rfl; rfl)
        | ((with_reducible apply wpQ_fieldAddr); (first | exact kF37_0 | exact kF37_1); rfl; rfl)
        | ((with_reducible apply wpQ_load1 (t := 3) kO3); rfl; (first | exact .here | exact .there .here | exact .there (.there .here) | exact .there (.there (.there .here)) | exact .there (.there (.there (.there .here))) | exact .there (.there (.there (.there (.there .here)))) | exact .there (.there (.there (.there (.there (.there .here))))) | exact .there (.there (.there (.there (.there (.there (.there .here))))))); rfl; rfl)
        | ((with_reducible apply wpQ_loadArr (t := 34) kA34); rfl; (first | exact .here | exact .there .here | exact .there (.there .here) | exact .there (.there (.there .here)) | exact .there (.there (.there (.there .here))) | exact .there (.there (.there (.there (.there .here)))) | exact .there (.there (.there (.there (.there (.there .here))))) | exact .there (.there (.there (.there (.there (.there (.there .here))))))); rfl)
        | ((with_reducible apply wpQ_loadC (t := 34) kA34); rfl; (first | exact .here | exact .there .here | exact .there (.there .here) | exact .there (.there (.there .here)) | exact .there (.there (.there (.there .here))) | exact .there (.there (.there (.there (.there .here)))) | exact .there (.there (.there (.there (.there (.there .here))))) | exact .there (.there (.there (.there (.there (.there (.there .here))))))); (first | rfl | exact Arr.len _ | (simp; done)); rfl)
        | ((with_reducible apply wpQ_move); rfl; rfl)
        | ((with_reducible apply wpQ_assign); rfl; rfl)
        | ((with_reducible apply wpQ_pick); rfl; rfl; rfl)
        | ((with_reducible apply wpQ_not); rfl; rfl)
        | ((with_reducible apply wpQ_cmp (b := true)); rfl; rfl; rfl; (first | rfl | assumption | (simp only [cmpB, decide_eq_true_eq, decide_eq_false_iff_not, beq_iff_eq, bne_iff_ne, ne_eq, beq_eq_false_iff_ne, bne_eq_false_iff_eq, gt_iff_lt, ge_iff_le]; omega) | (simp; omega)); rfl)
        | ((with_reducible apply wpQ_cmp (b := false)); rfl; rfl; rfl; (first | rfl | assumption | (simp only [cmpB, decide_eq_true_eq, decide_eq_false_iff_not, beq_iff_eq, bne_iff_ne, ne_eq, beq_eq_false_iff_ne, bne_eq_false_iff_eq, gt_iff_lt, ge_iff_le]; omega) | (simp; omega)); rfl)
        | ((with_reducible apply wpQ_cmp); rfl; rfl; rfl; rfl; rfl)
        | ((with_reducible apply wpQ_arith); rfl; rfl; rfl; (exact IntWalk.i64_in _ (by (try simp only [arithI]); omega)); rfl)); (try simp only [if_true, if_false, Bool.false_eq_true, arithI, Act.put, Act.eval, List.setIfInBounds_toArray, List.set_cons_succ, List.set_cons_zero, Array.getD_eq_getD_getElem?, List.getElem?_toArray, List.getElem?_cons_succ, List.getElem?_cons_zero, Option.getD_some]))
      refine wpQuiet_nil ?_
      intro wq hq_
      have HQ := hid hq_
      clear hq_
      clear HH
      have HH := HQ
      clear HQ
      go_wp2_with (first
        | ((first
            | ((with_reducible apply wpL_skip); rfl; skip)
            | (go_at_call 37; (with_reducible refine (join_any _ ((k : Int) + 1) y c).mono ?_); rw [HC2.out]; rintro e_ w2_ ⟨rfl, hb_⟩; (have hq_ := HH.out.grow hb_); clear HH; have HH := hid hq_; clear hq_ hb_)
            | ((with_reducible apply wpL_nilCheck); rfl; rfl)
            | ((with_reducible apply wpL_fieldAddr); (first | exact kF37_0 | exact kF37_1); rfl; rfl)
            | ((with_reducible apply wpL_load1 (t := 3) kO3 HH.out); rfl; (first | exact .here | exact .there .here | exact .there (.there .here) | exact .there (.there (.there .here)) | exact .there (.there (.there (.there .here))) | exact .there (.there (.there (.there (.there .here)))) | exact .there (.there (.there (.there (.there (.there .here))))) | exact .there (.there (.there (.there (.there (.there (.there .here))))))); rfl; rfl)
            | ((with_reducible apply wpL_loadArr (t := 34) kA34 HH.out); rfl; (first | exact .here | exact .there .here | exact .there (.there .here) | exact .there (.there (.there .here)) | exact .there (.there (.there (.there .here))) | exact .there (.there (.there (.there (.there .here)))) | exact .there (.there (.there (.there (.there (.there .here))))) | exact .there (.there (.there (.there (.there (.there (.there .here))))))); rfl)
            | ((with_reducible apply wpL_loadC (t := 34) kA34 HH.out); rfl; (first | exact .here | exact .there .here | exact .there (.there .here) | exact .there (.there (.there .here)) | exact .there (.there (.there (.there .here))) | exact .there (.there (.there (.there (.there .here)))) | exact .there (.there (.there (.there (.there (.there .here))))) | exact .there (.there (.there (.there (.there (.there (.there .here))))))); (first | rfl | exact Arr.len _ | (simp; done)); rfl)
            | ((with_reducible apply wpL_boxArr (dst := some 3)); rfl; (exact HH.out); rfl; (intro g3_ w_ hq_; (try simp only [List.set_cons_zero, List.set_cons_succ] at hq_); clear HH; have HH := hid hq_; clear hq_))
            | ((with_reducible apply wpL_store1 (t := 3)); rfl; rfl; rfl; (exact kS3); (exact HH.out); (first | exact .here | exact .there .here | exact .there (.there .here) | exact .there (.there (.there .here)) | exact .there (.there (.there (.there .here))) | exact .there (.there (.there (.there (.there .here)))) | exact .there (.there (.there (.there (.there (.there .here))))) | exact .there (.there (.there (.there (.there (.there (.there .here))))))); rfl; (first | exact Nat.le_of_ble_eq_true rfl | (simp; done) | omega); rfl; (intro w_ hq_; (try simp only [List.set_cons_zero, List.set_cons_succ] at hq_); clear HH; have HH := hid hq_; clear hq_))
            | ((with_reducible apply wpL_storeArr (t := 34) kS34 HH.out); rfl; rfl; (first | exact .here | exact .there .here | exact .there (.there .here) | exact .there (.there (.there .here)) | exact .there (.there (.there (.there .here))) | exact .there (.there (.there (.there (.there .here)))) | exact .there (.there (.there (.there (.there (.there .here))))) | exact .there (.there (.there (.there (.there (.there (.there .here))))))); (first | rfl | exact Arr.len _ | (simp; done)); rfl; (intro w_ hq_; (try simp only [List.set_cons_zero, List.set_cons_succ] at hq_); clear HH; have HH := hid hq_; clear hq_))
            | ((with_reducible apply wpL_storeC (t := 34)); rfl; rfl; (exact kS34); (exact HH.out); (first | exact .here | exact .there .here | exact .there (.there .here) | exact .there (.there (.there .here)) | exact .there (.there (.there (.there .here))) | exact .there (.there (.there (.there (.there .here)))) | exact .there (.there (.there (.there (.there (.there .here))))) | exact .there (.there (.there (.there (.there (.there (.there .here))))))); (first | rfl | exact Arr.len _ | (simp; done)); (first | rfl | (intro u_ hu_; simp only [List.mem_cons, List.not_mem_nil, or_false] at hu_; rcases hu_ with rfl | hu_; rfl) | exact byt_cell1 _ | exact cells_one _ | exact wrd_one _ | exact flat_cell1 _); (first | rfl | exact Arr.len _ | (simp; done)); rfl; (intro w_ hq_; (try simp only [List.set_cons_zero, List.set_cons_succ] at hq_); clear HH; have HH := hid hq_; clear hq_))
            | ((with_reducible apply wpL_move); rfl; rfl)
            | ((with_reducible apply wpL_assign); rfl; rfl)
            | ((with_reducible apply wpL_pick); rfl; rfl; rfl)
            | ((with_reducible apply wpL_not); rfl; rfl)
            | ((with_reducible apply wpL_cmp (b := true)); rfl; rfl; rfl; (first | rfl | assumption | (simp only [cmpB, decide_eq_true_eq, decide_eq_false_iff_not, beq_iff_eq, bne_iff_ne, ne_eq, beq_eq_false_iff_ne, bne_eq_false_iff_eq, gt_iff_lt, ge_iff_le]; omega) | (simp; omega)); rfl)
            | ((with_reducible apply wpL_cmp (b := false)); rfl; rfl; rfl; (first | rfl | assumption | (simp only [cmpB, decide_eq_true_eq, decide_eq_false_iff_not, beq_iff_eq, bne_iff_ne, ne_eq, beq_eq_false_iff_ne, bne_eq_false_iff_eq, gt_iff_lt, ge_iff_le]; omega) | (simp; omega)); rfl)
            | ((with_reducible apply wpL_cmp); rfl; rfl; rfl; rfl; rfl)
            | ((with_reducible apply wpL_arith); rfl; rfl; rfl; (exact IntWalk.i64_in _ (by (try simp only [arithI]); omega)); rfl)); (try simp only [arithI, Act.put, Act.eval, List.setIfInBounds_toArray, List.set_cons_succ, List.set_cons_zero, Array.getD_eq_getD_getElem?, List.getElem?_toArray, List.getElem?_cons_succ, List.getElem?_cons_zero, Option.getD_some])))
      go_roundw
      case rel => exact ⟨k + 1, by go_num, HK2.out, HST.out ▸ HH.out⟩
      case measure => simp [intOf]; omega
    · have HAND := hid (show q &&& 1 = 0 by rw [Nat.and_one_is_mod]; omega)
      have HLOW := hid (show lowB n = k by
        have h1 := HK.out
        rw [hq, lowB_even hbit] at h1
        omega)
      have HNS := hid (show addNs ns n x = ns.set k c by unfold addNs; rw [HLOW.out, hc])
      have HSET := hid (bld_set (n := n) (y := c) HLEN.out (show k < 11 by omega))
      have HLEN2 := hid (show (ns.set k c).length = 11 by rw [List.length_set]; exact HLEN.out)
      obtain ⟨ns2, hns2⟩ : ∃ ns2, ns.set k c = ns2 := ⟨_, rfl⟩
      rw [hns2] at HNS HSET HLEN2
      have HINC := hid (bld_inc (n := n) HLEN2.out)
      have HCL := hid (show 0 + 0 + k * 16 + 16 ≤ (bldCs ns n).length by rw [bld_len HLEN.out]; omega)
      have HCL2 := hid (show 0 + 176 < (bldCs ns2 n).length by rw [bld_len HLEN2.out]; omega)
      clear hns2 hq hc hbit
      go_wp2_with (first
        | ((first
            | ((with_reducible apply wpL_skip); rfl; skip)
            | ((with_reducible apply wpL_load1 (t := 3) (v := .int .i64 (n : Int)) kO3 HH.out); rfl; (exact .there (Own.mid pre g _ post)); (exact bld_cnt HLEN.out); rfl)
            | ((with_reducible apply wpL_shrI (m := n) (k := k) (r := q)); rfl; rfl; rfl; rfl; (exact (by omega)); (exact HQ1.out); rfl)
            | ((with_reducible apply wpL_and (m := q) (n := 1) (r := 0)); rfl; rfl; rfl; rfl; (exact HB1.out); (exact (by decide)); (exact HAND.out); (exact (by decide)); rfl)
            | ((with_reducible apply wpL_nilCheck); rfl; rfl)
            | ((with_reducible apply wpL_fieldAddr); (first | exact kF37_0 | exact kF37_1); rfl; rfl)
            | ((with_reducible apply wpL_load1 (t := 3) kO3 HH.out); rfl; (first | exact .here | exact .there .here | exact .there (.there .here) | exact .there (.there (.there .here)) | exact .there (.there (.there (.there .here))) | exact .there (.there (.there (.there (.there .here)))) | exact .there (.there (.there (.there (.there (.there .here))))) | exact .there (.there (.there (.there (.there (.there (.there .here))))))); rfl; rfl)
            | ((with_reducible apply wpL_loadArr (t := 34) kA34 HH.out); rfl; (first | exact .here | exact .there .here | exact .there (.there .here) | exact .there (.there (.there .here)) | exact .there (.there (.there (.there .here))) | exact .there (.there (.there (.there (.there .here)))) | exact .there (.there (.there (.there (.there (.there .here))))) | exact .there (.there (.there (.there (.there (.there (.there .here))))))); rfl)
            | ((with_reducible apply wpL_loadC (t := 34) kA34 HH.out); rfl; (first | exact .here | exact .there .here | exact .there (.there .here) | exact .there (.there (.there .here)) | exact .there (.there (.there (.there .here))) | exact .there (.there (.there (.there (.there .here)))) | exact .there (.there (.there (.there (.there (.there .here))))) | exact .there (.there (.there (.there (.there (.there (.there .here))))))); (first | rfl | exact Arr.len _ | (simp; done)); rfl)
            | ((with_reducible apply wpL_boxArr (dst := some 3)); rfl; (exact HH.out); rfl; (intro g3_ w_ hq_; (try simp only [List.set_cons_zero, List.set_cons_succ] at hq_); clear HH; have HH := hid hq_; clear hq_))
            | ((with_reducible apply wpL_store1 (t := 3)); rfl; rfl; rfl; (exact kS3); (exact HH.out); (first | exact .here | exact .there .here | exact .there (.there .here) | exact .there (.there (.there .here)) | exact .there (.there (.there (.there .here))) | exact .there (.there (.there (.there (.there .here)))) | exact .there (.there (.there (.there (.there (.there .here))))) | exact .there (.there (.there (.there (.there (.there (.there .here))))))); rfl; (first | exact Nat.le_of_ble_eq_true rfl | (simp; done) | omega); rfl; (intro w_ hq_; (try simp only [List.set_cons_zero, List.set_cons_succ] at hq_); clear HH; have HH := hid hq_; clear hq_))
            | ((with_reducible apply wpL_storeArr (t := 34) kS34 HH.out); rfl; rfl; (first | exact .here | exact .there .here | exact .there (.there .here) | exact .there (.there (.there .here)) | exact .there (.there (.there (.there .here))) | exact .there (.there (.there (.there (.there .here)))) | exact .there (.there (.there (.there (.there (.there .here))))) | exact .there (.there (.there (.there (.there (.there (.there .here))))))); (first | rfl | exact Arr.len _ | (simp; done)); rfl; (intro w_ hq_; (try simp only [List.set_cons_zero, List.set_cons_succ] at hq_); clear HH; have HH := hid hq_; clear hq_))
            | ((with_reducible apply wpL_storeC (t := 34)); rfl; rfl; (exact kS34); (exact HH.out); (first | exact .here | exact .there .here | exact .there (.there .here) | exact .there (.there (.there .here)) | exact .there (.there (.there (.there .here))) | exact .there (.there (.there (.there (.there .here)))) | exact .there (.there (.there (.there (.there (.there .here))))) | exact .there (.there (.there (.there (.there (.there (.there .here))))))); (first | rfl | exact Arr.len _ | (simp; done)); (first | rfl | (intro u_ hu_; simp only [List.mem_cons, List.not_mem_nil, or_false] at hu_; rcases hu_ with rfl | hu_; rfl) | exact byt_cell1 _ | exact cells_one _ | exact wrd_one _ | exact flat_cell1 _); (first | rfl | exact Arr.len _ | (simp; done)); rfl; (intro w_ hq_; (try simp only [List.set_cons_zero, List.set_cons_succ] at hq_); clear HH; have HH := hid hq_; clear hq_))
            | ((with_reducible apply wpL_move); rfl; rfl)
            | ((with_reducible apply wpL_assign); rfl; rfl)
            | ((with_reducible apply wpL_pick); rfl; rfl; rfl)
            | ((with_reducible apply wpL_not); rfl; rfl)
            | ((with_reducible apply wpL_cmp (b := true)); rfl; rfl; rfl; (first | rfl | assumption | (simp only [cmpB, decide_eq_true_eq, decide_eq_false_iff_not, beq_iff_eq, bne_iff_ne, ne_eq, beq_eq_false_iff_ne, bne_eq_false_iff_eq, gt_iff_lt, ge_iff_le]; omega) | (simp; omega)); rfl)
            | ((with_reducible apply wpL_cmp (b := false)); rfl; rfl; rfl; (first | rfl | assumption | (simp only [cmpB, decide_eq_true_eq, decide_eq_false_iff_not, beq_iff_eq, bne_iff_ne, ne_eq, beq_eq_false_iff_ne, bne_eq_false_iff_eq, gt_iff_lt, ge_iff_le]; omega) | (simp; omega)); rfl)
            | ((with_reducible apply wpL_cmp); rfl; rfl; rfl; rfl; rfl)
            | ((with_reducible apply wpL_arith); rfl; rfl; rfl; (exact IntWalk.i64_in _ (by (try simp only [arithI]); omega)); rfl)); (try simp only [arithI, Act.put, Act.eval, List.setIfInBounds_toArray, List.set_cons_succ, List.set_cons_zero, Array.getD_eq_getD_getElem?, List.getElem?_toArray, List.getElem?_cons_succ, List.getElem?_cons_zero, Option.getD_some])))
      refine wp_region_tailQ 5 (by kernel_rfl) (by kernel_rfl) (by kernel_rfl) HH.out ?_
      simp only [List.take_succ_cons, List.take_zero, List.drop_succ_cons, List.drop_zero]
      repeat ((first
        | ((with_reducible apply wpQ_skip); rfl; skip)
        | ((with_reducible apply wpQ_nilCheck); rfl; rfl)
        | ((with_reducible apply wpQ_fieldAddr); (first | exact kF37_0 | exact kF37_1); rfl; rfl)
        | ((with_reducible apply wpQ_load1 (t := 3) kO3); rfl; (first | exact .here | exact .there .here | exact .there (.there .here) | exact .there (.there (.there .here)) | exact .there (.there (.there (.there .here))) | exact .there (.there (.there (.there (.there .here)))) | exact .there (.there (.there (.there (.there (.there .here))))) | exact .there (.there (.there (.there (.there (.there (.there .here))))))); rfl; rfl)
        | ((with_reducible apply wpQ_loadArr (t := 34) kA34); rfl; (first | exact .here | exact .there .here | exact .there (.there .here) | exact .there (.there (.there .here)) | exact .there (.there (.there (.there .here))) | exact .there (.there (.there (.there (.there .here)))) | exact .there (.there (.there (.there (.there (.there .here))))) | exact .there (.there (.there (.there (.there (.there (.there .here))))))); rfl)
        | ((with_reducible apply wpQ_loadC (t := 34) kA34); rfl; (first | exact .here | exact .there .here | exact .there (.there .here) | exact .there (.there (.there .here)) | exact .there (.there (.there (.there .here))) | exact .there (.there (.there (.there (.there .here)))) | exact .there (.there (.there (.there (.there (.there .here))))) | exact .there (.there (.there (.there (.there (.there (.there .here))))))); (first | rfl | exact Arr.len _ | (simp; done)); rfl)
        | ((with_reducible apply wpQ_move); rfl; rfl)
        | ((with_reducible apply wpQ_assign); rfl; rfl)
        | ((with_reducible apply wpQ_pick); rfl; rfl; rfl)
        | ((with_reducible apply wpQ_not); rfl; rfl)
        | ((with_reducible apply wpQ_cmp (b := true)); rfl; rfl; rfl; (first | rfl | assumption | (simp only [cmpB, decide_eq_true_eq, decide_eq_false_iff_not, beq_iff_eq, bne_iff_ne, ne_eq, beq_eq_false_iff_ne, bne_eq_false_iff_eq, gt_iff_lt, ge_iff_le]; omega) | (simp; omega)); rfl)
        | ((with_reducible apply wpQ_cmp (b := false)); rfl; rfl; rfl; (first | rfl | assumption | (simp only [cmpB, decide_eq_true_eq, decide_eq_false_iff_not, beq_iff_eq, bne_iff_ne, ne_eq, beq_eq_false_iff_ne, bne_eq_false_iff_eq, gt_iff_lt, ge_iff_le]; omega) | (simp; omega)); rfl)
        | ((with_reducible apply wpQ_cmp); rfl; rfl; rfl; rfl; rfl)
        | ((with_reducible apply wpQ_arith); rfl; rfl; rfl; (exact IntWalk.i64_in _ (by (try simp only [arithI]); omega)); rfl)); (try simp only [if_true, if_false, Bool.false_eq_true, arithI, Act.put, Act.eval, List.setIfInBounds_toArray, List.set_cons_succ, List.set_cons_zero, Array.getD_eq_getD_getElem?, List.getElem?_toArray, List.getElem?_cons_succ, List.getElem?_cons_zero, Option.getD_some]))
      refine wpQuiet_nil ?_
      intro wq hq_
      have HQ := hid hq_
      clear hq_
      clear HH
      have HH := HQ
      clear HQ
      go_wp2_with (first
        | ((first
            | ((with_reducible apply wpL_skip); rfl; skip)
            | ((with_reducible apply wpL_indexE (dst := some 38) (m := k) Try.underlying35 kS34 (by decide)); rfl; rfl; rfl; (exact (by omega)); rfl)
            | ((with_reducible apply wpL_storePart (t := 34) (x := .tmp 38) (v := c.val) (vs := c.cells) (cs := bldCs ns n) (e := 37)); rfl; rfl; rfl; (exact kS34); (exact HH.out); (exact .there (by rw [HSET.out]; exact Turn.mid _ _ _ _ _)); (exact Arr.len _); (exact cells_one _); (exact HCL.out); rfl; (intro w_ hq_; clear HH; have HH := hid hq_; clear hq_))
            | ((with_reducible apply wpL_load1 (dst := some 42) (t := 3) (v := .int .i64 (n : Int)) kO3 HH.out); rfl; (exact .there (Own.mid pre g _ post)); (exact bld_cnt HLEN2.out); rfl)
            | ((with_reducible apply wpL_store1 (t := 3) (x := .tmp 45) (v := .int .i64 ((n : Int) + 1)) (cs := bldCs ns2 n) (e := 37)); rfl; rfl; rfl; (exact kS3); (exact HH.out); (exact .there (by rw [HINC.out]; exact Turn.mid _ _ _ _ _)); rfl; (exact HCL2.out); rfl; (intro w_ hq_; clear HH; have HH := hid hq_; clear hq_))
            | ((with_reducible apply wpL_nilCheck); rfl; rfl)
            | ((with_reducible apply wpL_fieldAddr); (first | exact kF37_0 | exact kF37_1); rfl; rfl)
            | ((with_reducible apply wpL_load1 (t := 3) kO3 HH.out); rfl; (first | exact .here | exact .there .here | exact .there (.there .here) | exact .there (.there (.there .here)) | exact .there (.there (.there (.there .here))) | exact .there (.there (.there (.there (.there .here)))) | exact .there (.there (.there (.there (.there (.there .here))))) | exact .there (.there (.there (.there (.there (.there (.there .here))))))); rfl; rfl)
            | ((with_reducible apply wpL_loadArr (t := 34) kA34 HH.out); rfl; (first | exact .here | exact .there .here | exact .there (.there .here) | exact .there (.there (.there .here)) | exact .there (.there (.there (.there .here))) | exact .there (.there (.there (.there (.there .here)))) | exact .there (.there (.there (.there (.there (.there .here))))) | exact .there (.there (.there (.there (.there (.there (.there .here))))))); rfl)
            | ((with_reducible apply wpL_loadC (t := 34) kA34 HH.out); rfl; (first | exact .here | exact .there .here | exact .there (.there .here) | exact .there (.there (.there .here)) | exact .there (.there (.there (.there .here))) | exact .there (.there (.there (.there (.there .here)))) | exact .there (.there (.there (.there (.there (.there .here))))) | exact .there (.there (.there (.there (.there (.there (.there .here))))))); (first | rfl | exact Arr.len _ | (simp; done)); rfl)
            | ((with_reducible apply wpL_boxArr (dst := some 3)); rfl; (exact HH.out); rfl; (intro g3_ w_ hq_; (try simp only [List.set_cons_zero, List.set_cons_succ] at hq_); clear HH; have HH := hid hq_; clear hq_))
            | ((with_reducible apply wpL_store1 (t := 3)); rfl; rfl; rfl; (exact kS3); (exact HH.out); (first | exact .here | exact .there .here | exact .there (.there .here) | exact .there (.there (.there .here)) | exact .there (.there (.there (.there .here))) | exact .there (.there (.there (.there (.there .here)))) | exact .there (.there (.there (.there (.there (.there .here))))) | exact .there (.there (.there (.there (.there (.there (.there .here))))))); rfl; (first | exact Nat.le_of_ble_eq_true rfl | (simp; done) | omega); rfl; (intro w_ hq_; (try simp only [List.set_cons_zero, List.set_cons_succ] at hq_); clear HH; have HH := hid hq_; clear hq_))
            | ((with_reducible apply wpL_storeArr (t := 34) kS34 HH.out); rfl; rfl; (first | exact .here | exact .there .here | exact .there (.there .here) | exact .there (.there (.there .here)) | exact .there (.there (.there (.there .here))) | exact .there (.there (.there (.there (.there .here)))) | exact .there (.there (.there (.there (.there (.there .here))))) | exact .there (.there (.there (.there (.there (.there (.there .here))))))); (first | rfl | exact Arr.len _ | (simp; done)); rfl; (intro w_ hq_; (try simp only [List.set_cons_zero, List.set_cons_succ] at hq_); clear HH; have HH := hid hq_; clear hq_))
            | ((with_reducible apply wpL_storeC (t := 34)); rfl; rfl; (exact kS34); (exact HH.out); (first | exact .here | exact .there .here | exact .there (.there .here) | exact .there (.there (.there .here)) | exact .there (.there (.there (.there .here))) | exact .there (.there (.there (.there (.there .here)))) | exact .there (.there (.there (.there (.there (.there .here))))) | exact .there (.there (.there (.there (.there (.there (.there .here))))))); (first | rfl | exact Arr.len _ | (simp; done)); (first | rfl | (intro u_ hu_; simp only [List.mem_cons, List.not_mem_nil, or_false] at hu_; rcases hu_ with rfl | hu_; rfl) | exact byt_cell1 _ | exact cells_one _ | exact wrd_one _ | exact flat_cell1 _); (first | rfl | exact Arr.len _ | (simp; done)); rfl; (intro w_ hq_; (try simp only [List.set_cons_zero, List.set_cons_succ] at hq_); clear HH; have HH := hid hq_; clear hq_))
            | ((with_reducible apply wpL_move); rfl; rfl)
            | ((with_reducible apply wpL_assign); rfl; rfl)
            | ((with_reducible apply wpL_pick); rfl; rfl; rfl)
            | ((with_reducible apply wpL_not); rfl; rfl)
            | ((with_reducible apply wpL_cmp (b := true)); rfl; rfl; rfl; (first | rfl | assumption | (simp only [cmpB, decide_eq_true_eq, decide_eq_false_iff_not, beq_iff_eq, bne_iff_ne, ne_eq, beq_eq_false_iff_ne, bne_eq_false_iff_eq, gt_iff_lt, ge_iff_le]; omega) | (simp; omega)); rfl)
            | ((with_reducible apply wpL_cmp (b := false)); rfl; rfl; rfl; (first | rfl | assumption | (simp only [cmpB, decide_eq_true_eq, decide_eq_false_iff_not, beq_iff_eq, bne_iff_ne, ne_eq, beq_eq_false_iff_ne, bne_eq_false_iff_eq, gt_iff_lt, ge_iff_le]; omega) | (simp; omega)); rfl)
            | ((with_reducible apply wpL_cmp); rfl; rfl; rfl; rfl; rfl)
            | ((with_reducible apply wpL_arith); rfl; rfl; rfl; (exact IntWalk.i64_in _ (by (try simp only [arithI]); omega)); rfl)); (try simp only [arithI, Act.put, Act.eval, List.setIfInBounds_toArray, List.set_cons_succ, List.set_cons_zero, Array.getD_eq_getD_getElem?, List.getElem?_toArray, List.getElem?_cons_succ, List.getElem?_cons_zero, Option.getD_some])))
      go_ret
      rw [HNS.out]
      exact ⟨rfl, HH.out.dropBlk⟩
end Go.Proofs.Ytgkfopodhikckaa

/- A Builder of the call's own: NewBuilder, Len, Pending, Root; a nil Builder. No condition. -/
namespace Go.Proofs.Ytgkfopodhikckaa
open Go.RowKit
attribute [local irreducible] wpQuiet wpList
theorem BZ37 (w : World) : (Instr.build 37 #[]).run Try.prog w = .ok (.agg (bldCs (List.replicate 11 Nd0) 0).toArray) w := by kernel_rfl
set_option maxRecDepth 100000 in
set_option maxHeartbeats 2000000 in
theorem newB_any (w0 w : World) (S : List Nat) (bs : List (Nat × Obj)) (rows : List Row) (hH : Holds w0 S bs rows w) :
    Calls Try.prog 24 #[] w (fun e w' => ∃ g, e = .returned (.pointer (some ⟨g, 0, none⟩)) ∧ Holds w0 S ((g, bldO (List.replicate 11 Nd0) 0) :: bs) rows w') := by
  have HH := hid hH
  clear hH
  go_enter Try.func24, Try.ntmps24
  go_wp2_with (first
    | ((first
        | ((with_reducible apply wpL_skip); rfl; skip)
        | ((with_reducible apply wpList_build (parts := #[]) (v := .agg (bldCs (List.replicate 11 Nd0) 0).toArray)); (exact BZ37); rfl)
        | ((with_reducible apply wpL_nilCheck); rfl; rfl)
        | ((with_reducible apply wpL_boxC (dst := some 2)); rfl; (exact HH.out); rfl; (intro g2_ w_ hq_; (try simp only [List.set_cons_zero, List.set_cons_succ] at hq_); clear HH; have HH := hid hq_; clear hq_))
        | ((with_reducible apply wpL_move); rfl; rfl)
        | ((with_reducible apply wpL_assign); rfl; rfl)
        | ((with_reducible apply wpL_pick); rfl; rfl; rfl)
        | ((with_reducible apply wpL_not); rfl; rfl)
        | ((with_reducible apply wpL_cmp (b := true)); rfl; rfl; rfl; (first | rfl | assumption | (simp only [cmpB, decide_eq_true_eq, decide_eq_false_iff_not, beq_iff_eq, bne_iff_ne, ne_eq, beq_eq_false_iff_ne, bne_eq_false_iff_eq, gt_iff_lt, ge_iff_le]; omega) | (simp; omega)); rfl)
        | ((with_reducible apply wpL_cmp (b := false)); rfl; rfl; rfl; (first | rfl | assumption | (simp only [cmpB, decide_eq_true_eq, decide_eq_false_iff_not, beq_iff_eq, bne_iff_ne, ne_eq, beq_eq_false_iff_ne, bne_eq_false_iff_eq, gt_iff_lt, ge_iff_le]; omega) | (simp; omega)); rfl)
        | ((with_reducible apply wpL_cmp); rfl; rfl; rfl; rfl; rfl)
        | ((with_reducible apply wpL_arith); rfl; rfl; rfl; (exact IntWalk.i64_in _ (by (try simp only [arithI]); omega)); rfl)); (try simp only [arithI, Act.put, Act.eval, List.setIfInBounds_toArray, List.set_cons_succ, List.set_cons_zero, Array.getD_eq_getD_getElem?, List.getElem?_toArray, List.getElem?_cons_succ, List.getElem?_cons_zero, Option.getD_some])))
  go_ret
  exact ⟨_, rfl, HH.out⟩
set_option maxRecDepth 100000 in
set_option maxHeartbeats 2000000 in
theorem lenB_any (w0 w : World) (S : List Nat) (pre post : List (Nat × Obj)) (rows : List Row) (g n : Nat) (ns : List Nd) (hlen : ns.length = 11) (hH : Holds w0 S (pre ++ (g, bldO ns n) :: post) rows w) :
    Calls Try.prog 27 #[.pointer (some ⟨g, 0, none⟩)] w (fun e w' => e = .returned (.int .i64 (n : Int)) ∧ Below w.heap.size w w') := by
  have HB := hid hH
  have HLEN := hid hlen
  have HH := hid (Holds.init w)
  clear hH hlen
  go_enter Try.func27, Try.ntmps27
  go_wp2_with (first
    | ((first
        | ((with_reducible apply wpL_skip); rfl; skip)
        | ((with_reducible apply wpL_load1 (t := 3) (v := .int .i64 (n : Int)) kO3 HB.out); rfl; (exact (Own.mid pre g _ post)); (exact bld_cnt HLEN.out); rfl)
        | ((with_reducible apply wpL_nilCheck); rfl; rfl)
        | ((with_reducible apply wpL_fieldAddr); (first | exact kF37_1); rfl; rfl)
        | ((with_reducible apply wpL_load1 (t := 3) kO3 HH.out); rfl; (first | exact .here | exact .there .here | exact .there (.there .here) | exact .there (.there (.there .here)) | exact .there (.there (.there (.there .here))) | exact .there (.there (.there (.there (.there .here)))) | exact .there (.there (.there (.there (.there (.there .here))))) | exact .there (.there (.there (.there (.there (.there (.there .here))))))); rfl; rfl)
        | ((with_reducible apply wpL_move); rfl; rfl)
        | ((with_reducible apply wpL_assign); rfl; rfl)
        | ((with_reducible apply wpL_pick); rfl; rfl; rfl)
        | ((with_reducible apply wpL_not); rfl; rfl)
        | ((with_reducible apply wpL_cmp (b := true)); rfl; rfl; rfl; (first | rfl | assumption | (simp only [cmpB, decide_eq_true_eq, decide_eq_false_iff_not, beq_iff_eq, bne_iff_ne, ne_eq, beq_eq_false_iff_ne, bne_eq_false_iff_eq, gt_iff_lt, ge_iff_le]; omega) | (simp; omega)); rfl)
        | ((with_reducible apply wpL_cmp (b := false)); rfl; rfl; rfl; (first | rfl | assumption | (simp only [cmpB, decide_eq_true_eq, decide_eq_false_iff_not, beq_iff_eq, bne_iff_ne, ne_eq, beq_eq_false_iff_ne, bne_eq_false_iff_eq, gt_iff_lt, ge_iff_le]; omega) | (simp; omega)); rfl)
        | ((with_reducible apply wpL_cmp); rfl; rfl; rfl; rfl; rfl)
        | ((with_reducible apply wpL_arith); rfl; rfl; rfl; (exact IntWalk.i64_in _ (by (try simp only [arithI]); omega)); rfl)); (try simp only [arithI, Act.put, Act.eval, List.setIfInBounds_toArray, List.set_cons_succ, List.set_cons_zero, Array.getD_eq_getD_getElem?, List.getElem?_toArray, List.getElem?_cons_succ, List.getElem?_cons_zero, Option.getD_some])))
  go_ret
  exact ⟨rfl, HH.out.below⟩
set_option maxRecDepth 100000 in
set_option maxHeartbeats 2000000 in
theorem lenNilB_any (w : World) : Calls Try.prog 27 #[.pointer none] w (fun e w' => e = .returned (.int .i64 0) ∧ Below w.heap.size w w') := by
  have HH := hid (Holds.init w)
  go_enter Try.func27, Try.ntmps27
  go_wp2_with (first
    | ((first
        | ((with_reducible apply wpL_skip); rfl; skip)
        | ((with_reducible apply wpL_nilCheck); rfl; rfl)
        | ((with_reducible apply wpL_fieldAddr); (first | exact kF37_1); rfl; rfl)
        | ((with_reducible apply wpL_load1 (t := 3) kO3 HH.out); rfl; (first | exact .here | exact .there .here | exact .there (.there .here) | exact .there (.there (.there .here)) | exact .there (.there (.there (.there .here))) | exact .there (.there (.there (.there (.there .here)))) | exact .there (.there (.there (.there (.there (.there .here))))) | exact .there (.there (.there (.there (.there (.there (.there .here))))))); rfl; rfl)
        | ((with_reducible apply wpL_move); rfl; rfl)
        | ((with_reducible apply wpL_assign); rfl; rfl)
        | ((with_reducible apply wpL_pick); rfl; rfl; rfl)
        | ((with_reducible apply wpL_not); rfl; rfl)
        | ((with_reducible apply wpL_cmp (b := true)); rfl; rfl; rfl; (first | rfl | assumption | (simp only [cmpB, decide_eq_true_eq, decide_eq_false_iff_not, beq_iff_eq, bne_iff_ne, ne_eq, beq_eq_false_iff_ne, bne_eq_false_iff_eq, gt_iff_lt, ge_iff_le]; omega) | (simp; omega)); rfl)
        | ((with_reducible apply wpL_cmp (b := false)); rfl; rfl; rfl; (first | rfl | assumption | (simp only [cmpB, decide_eq_true_eq, decide_eq_false_iff_not, beq_iff_eq, bne_iff_ne, ne_eq, beq_eq_false_iff_ne, bne_eq_false_iff_eq, gt_iff_lt, ge_iff_le]; omega) | (simp; omega)); rfl)
        | ((with_reducible apply wpL_cmp); rfl; rfl; rfl; rfl; rfl)
        | ((with_reducible apply wpL_arith); rfl; rfl; rfl; (exact IntWalk.i64_in _ (by (try simp only [arithI]); omega)); rfl)); (try simp only [arithI, Act.put, Act.eval, List.setIfInBounds_toArray, List.set_cons_succ, List.set_cons_zero, Array.getD_eq_getD_getElem?, List.getElem?_toArray, List.getElem?_cons_succ, List.getElem?_cons_zero, Option.getD_some])))
  go_ret
  exact ⟨rfl, HH.out.below⟩
set_option maxRecDepth 100000 in
set_option maxHeartbeats 2000000 in
theorem addNilB_any (w : World) (x : Nd) : Calls Try.prog 31 #[.pointer none, x.val] w (fun e w' => e = .returned (.int .i64 1) ∧ Below w.heap.size w w') := by
  have HH := hid (Holds.init w)
  go_enter Try.func31, Try.ntmps31
  go_wp2_with (first
    | ((first
        | ((with_reducible apply wpL_skip); rfl; skip)
        | ((with_reducible apply wpL_nilCheck); rfl; rfl)
        | ((with_reducible apply wpL_fieldAddr); (first | exact kF37_0 | exact kF37_1); rfl; rfl)
        | ((with_reducible apply wpL_load1 (t := 3) kO3 HH.out); rfl; (first | exact .here | exact .there .here | exact .there (.there .here) | exact .there (.there (.there .here)) | exact .there (.there (.there (.there .here))) | exact .there (.there (.there (.there (.there .here)))) | exact .there (.there (.there (.there (.there (.there .here))))) | exact .there (.there (.there (.there (.there (.there (.there .here))))))); rfl; rfl)
        | ((with_reducible apply wpL_loadArr (t := 34) kA34 HH.out); rfl; (first | exact .here | exact .there .here | exact .there (.there .here) | exact .there (.there (.there .here)) | exact .there (.there (.there (.there .here))) | exact .there (.there (.there (.there (.there .here)))) | exact .there (.there (.there (.there (.there (.there .here))))) | exact .there (.there (.there (.there (.there (.there (.there .here))))))); rfl)
        | ((with_reducible apply wpL_loadC (t := 34) kA34 HH.out); rfl; (first | exact .here | exact .there .here | exact .there (.there .here) | exact .there (.there (.there .here)) | exact .there (.there (.there (.there .here))) | exact .there (.there (.there (.there (.there .here)))) | exact .there (.there (.there (.there (.there (.there .here))))) | exact .there (.there (.there (.there (.there (.there (.there .here))))))); (first | rfl | exact Arr.len _ | (simp; done)); rfl)
        | ((with_reducible apply wpL_boxArr (dst := some 3)); rfl; (exact HH.out); rfl; (intro g3_ w_ hq_; (try simp only [List.set_cons_zero, List.set_cons_succ] at hq_); clear HH; have HH := hid hq_; clear hq_))
        | ((with_reducible apply wpL_store1 (t := 3)); rfl; rfl; rfl; (exact kS3); (exact HH.out); (first | exact .here | exact .there .here | exact .there (.there .here) | exact .there (.there (.there .here)) | exact .there (.there (.there (.there .here))) | exact .there (.there (.there (.there (.there .here)))) | exact .there (.there (.there (.there (.there (.there .here))))) | exact .there (.there (.there (.there (.there (.there (.there .here))))))); rfl; (first | exact Nat.le_of_ble_eq_true rfl | (simp; done) | omega); rfl; (intro w_ hq_; (try simp only [List.set_cons_zero, List.set_cons_succ] at hq_); clear HH; have HH := hid hq_; clear hq_))
        | ((with_reducible apply wpL_storeArr (t := 34) kS34 HH.out); rfl; rfl; (first | exact .here | exact .there .here | exact .there (.there .here) | exact .there (.there (.there .here)) | exact .there (.there (.there (.there .here))) | exact .there (.there (.there (.there (.there .here)))) | exact .there (.there (.there (.there (.there (.there .here))))) | exact .there (.there (.there (.there (.there (.there (.there .here))))))); (first | rfl | exact Arr.len _ | (simp; done)); rfl; (intro w_ hq_; (try simp only [List.set_cons_zero, List.set_cons_succ] at hq_); clear HH; have HH := hid hq_; clear hq_))
        | ((with_reducible apply wpL_storeC (t := 34)); rfl; rfl; (exact kS34); (exact HH.out); (first | exact .here | exact .there .here | exact .there (.there .here) | exact .there (.there (.there .here)) | exact .there (.there (.there (.there .here))) | exact .there (.there (.there (.there (.there .here)))) | exact .there (.there (.there (.there (.there (.there .here))))) | exact .there (.there (.there (.there (.there (.there (.there .here))))))); (first | rfl | exact Arr.len _ | (simp; done)); (first | rfl | (intro u_ hu_; simp only [List.mem_cons, List.not_mem_nil, or_false] at hu_; rcases hu_ with rfl | hu_; rfl) | exact byt_cell1 _ | exact cells_one _ | exact wrd_one _ | exact flat_cell1 _); (first | rfl | exact Arr.len _ | (simp; done)); rfl; (intro w_ hq_; (try simp only [List.set_cons_zero, List.set_cons_succ] at hq_); clear HH; have HH := hid hq_; clear hq_))
        | ((with_reducible apply wpL_move); rfl; rfl)
        | ((with_reducible apply wpL_assign); rfl; rfl)
        | ((with_reducible apply wpL_pick); rfl; rfl; rfl)
        | ((with_reducible apply wpL_not); rfl; rfl)
        | ((with_reducible apply wpL_cmp (b := true)); rfl; rfl; rfl; (first | rfl | assumption | (simp only [cmpB, decide_eq_true_eq, decide_eq_false_iff_not, beq_iff_eq, bne_iff_ne, ne_eq, beq_eq_false_iff_ne, bne_eq_false_iff_eq, gt_iff_lt, ge_iff_le]; omega) | (simp; omega)); rfl)
        | ((with_reducible apply wpL_cmp (b := false)); rfl; rfl; rfl; (first | rfl | assumption | (simp only [cmpB, decide_eq_true_eq, decide_eq_false_iff_not, beq_iff_eq, bne_iff_ne, ne_eq, beq_eq_false_iff_ne, bne_eq_false_iff_eq, gt_iff_lt, ge_iff_le]; omega) | (simp; omega)); rfl)
        | ((with_reducible apply wpL_cmp); rfl; rfl; rfl; rfl; rfl)
        | ((with_reducible apply wpL_arith); rfl; rfl; rfl; (exact IntWalk.i64_in _ (by (try simp only [arithI]); omega)); rfl)); (try simp only [arithI, Act.put, Act.eval, List.setIfInBounds_toArray, List.set_cons_succ, List.set_cons_zero, Array.getD_eq_getD_getElem?, List.getElem?_toArray, List.getElem?_cons_succ, List.getElem?_cons_zero, Option.getD_some])))
  go_ret
  exact ⟨rfl, HH.out.dropBlk.below⟩
set_option maxRecDepth 100000 in
set_option maxHeartbeats 2000000 in
theorem addFull_any (w0 w : World) (S : List Nat) (pre post : List (Nat × Obj)) (rows : List Row) (g : Nat) (ns : List Nd) (x : Nd) (hlen : ns.length = 11) (hH : Holds w0 S (pre ++ (g, bldO ns 1024) :: post) rows w) :
    Calls Try.prog 31 #[.pointer (some ⟨g, 0, none⟩), x.val] w (fun e w' => e = .returned (.int .i64 9) ∧ Below w.heap.size w w') := by
  have HB := hid hH
  have HLEN := hid hlen
  have HH := hid (Holds.init w)
  clear hH hlen
  go_enter Try.func31, Try.ntmps31
  go_wp2_with (first
    | ((first
        | ((with_reducible apply wpL_skip); rfl; skip)
        | ((with_reducible apply wpL_load1 (t := 3) (v := .int .i64 ((1024 : Nat) : Int)) kO3 (HB.out.grow HH.out.below)); rfl; (exact (Own.mid pre g _ post)); (exact bld_cnt HLEN.out); rfl)
        | ((with_reducible apply wpL_nilCheck); rfl; rfl)
        | ((with_reducible apply wpL_fieldAddr); (first | exact kF37_0 | exact kF37_1); rfl; rfl)
        | ((with_reducible apply wpL_load1 (t := 3) kO3 HH.out); rfl; (first | exact .here | exact .there .here | exact .there (.there .here) | exact .there (.there (.there .here)) | exact .there (.there (.there (.there .here))) | exact .there (.there (.there (.there (.there .here)))) | exact .there (.there (.there (.there (.there (.there .here))))) | exact .there (.there (.there (.there (.there (.there (.there .here))))))); rfl; rfl)
        | ((with_reducible apply wpL_loadArr (t := 34) kA34 HH.out); rfl; (first | exact .here | exact .there .here | exact .there (.there .here) | exact .there (.there (.there .here)) | exact .there (.there (.there (.there .here))) | exact .there (.there (.there (.there (.there .here)))) | exact .there (.there (.there (.there (.there (.there .here))))) | exact .there (.there (.there (.there (.there (.there (.there .here))))))); rfl)
        | ((with_reducible apply wpL_loadC (t := 34) kA34 HH.out); rfl; (first | exact .here | exact .there .here | exact .there (.there .here) | exact .there (.there (.there .here)) | exact .there (.there (.there (.there .here))) | exact .there (.there (.there (.there (.there .here)))) | exact .there (.there (.there (.there (.there (.there .here))))) | exact .there (.there (.there (.there (.there (.there (.there .here))))))); (first | rfl | exact Arr.len _ | (simp; done)); rfl)
        | ((with_reducible apply wpL_boxArr (dst := some 3)); rfl; (exact HH.out); rfl; (intro g3_ w_ hq_; (try simp only [List.set_cons_zero, List.set_cons_succ] at hq_); clear HH; have HH := hid hq_; clear hq_))
        | ((with_reducible apply wpL_store1 (t := 3)); rfl; rfl; rfl; (exact kS3); (exact HH.out); (first | exact .here | exact .there .here | exact .there (.there .here) | exact .there (.there (.there .here)) | exact .there (.there (.there (.there .here))) | exact .there (.there (.there (.there (.there .here)))) | exact .there (.there (.there (.there (.there (.there .here))))) | exact .there (.there (.there (.there (.there (.there (.there .here))))))); rfl; (first | exact Nat.le_of_ble_eq_true rfl | (simp; done) | omega); rfl; (intro w_ hq_; (try simp only [List.set_cons_zero, List.set_cons_succ] at hq_); clear HH; have HH := hid hq_; clear hq_))
        | ((with_reducible apply wpL_storeArr (t := 34) kS34 HH.out); rfl; rfl; (first | exact .here | exact .there .here | exact .there (.there .here) | exact .there (.there (.there .here)) | exact .there (.there (.there (.there .here))) | exact .there (.there (.there (.there (.there .here)))) | exact .there (.there (.there (.there (.there (.there .here))))) | exact .there (.there (.there (.there (.there (.there (.there .here))))))); (first | rfl | exact Arr.len _ | (simp; done)); rfl; (intro w_ hq_; (try simp only [List.set_cons_zero, List.set_cons_succ] at hq_); clear HH; have HH := hid hq_; clear hq_))
        | ((with_reducible apply wpL_storeC (t := 34)); rfl; rfl; (exact kS34); (exact HH.out); (first | exact .here | exact .there .here | exact .there (.there .here) | exact .there (.there (.there .here)) | exact .there (.there (.there (.there .here))) | exact .there (.there (.there (.there (.there .here)))) | exact .there (.there (.there (.there (.there (.there .here))))) | exact .there (.there (.there (.there (.there (.there (.there .here))))))); (first | rfl | exact Arr.len _ | (simp; done)); (first | rfl | (intro u_ hu_; simp only [List.mem_cons, List.not_mem_nil, or_false] at hu_; rcases hu_ with rfl | hu_; rfl) | exact byt_cell1 _ | exact cells_one _ | exact wrd_one _ | exact flat_cell1 _); (first | rfl | exact Arr.len _ | (simp; done)); rfl; (intro w_ hq_; (try simp only [List.set_cons_zero, List.set_cons_succ] at hq_); clear HH; have HH := hid hq_; clear hq_))
        | ((with_reducible apply wpL_move); rfl; rfl)
        | ((with_reducible apply wpL_assign); rfl; rfl)
        | ((with_reducible apply wpL_pick); rfl; rfl; rfl)
        | ((with_reducible apply wpL_not); rfl; rfl)
        | ((with_reducible apply wpL_cmp (b := true)); rfl; rfl; rfl; (first | rfl | assumption | (simp only [cmpB, decide_eq_true_eq, decide_eq_false_iff_not, beq_iff_eq, bne_iff_ne, ne_eq, beq_eq_false_iff_ne, bne_eq_false_iff_eq, gt_iff_lt, ge_iff_le]; omega) | (simp; omega)); rfl)
        | ((with_reducible apply wpL_cmp (b := false)); rfl; rfl; rfl; (first | rfl | assumption | (simp only [cmpB, decide_eq_true_eq, decide_eq_false_iff_not, beq_iff_eq, bne_iff_ne, ne_eq, beq_eq_false_iff_ne, bne_eq_false_iff_eq, gt_iff_lt, ge_iff_le]; omega) | (simp; omega)); rfl)
        | ((with_reducible apply wpL_cmp); rfl; rfl; rfl; rfl; rfl)
        | ((with_reducible apply wpL_arith); rfl; rfl; rfl; (exact IntWalk.i64_in _ (by (try simp only [arithI]); omega)); rfl)); (try simp only [arithI, Act.put, Act.eval, List.setIfInBounds_toArray, List.set_cons_succ, List.set_cons_zero, Array.getD_eq_getD_getElem?, List.getElem?_toArray, List.getElem?_cons_succ, List.getElem?_cons_zero, Option.getD_some])))
  go_ret
  exact ⟨rfl, HH.out.dropBlk.below⟩
/-- The nodes that are kept, the highest level first: those of the levels from 10 down, j of them looked at. -/
def pendJ (ns : List Nd) (n : Nat) (j : Nat) : List Nd := ((List.range j).filter fun i => (n / 2 ^ (10 - i)) % 2 == 1).map fun i => ns.getD (10 - i) Nd0
theorem pendJ_succ (ns : List Nd) (n j : Nat) : pendJ ns n (j + 1) = pendJ ns n j ++ (if (n / 2 ^ (10 - j)) % 2 = 1 then [ns.getD (10 - j) Nd0] else []) := by
  unfold pendJ
  rw [List.range_succ, List.filter_append, List.map_append]
  congr 1
  by_cases h : (n / 2 ^ (10 - j)) % 2 = 1
  · simp [h]
  · simp [h]
theorem pendJ_len (ns : List Nd) (n j : Nat) : (pendJ ns n j).length ≤ j := by
  unfold pendJ
  rw [List.length_map]
  exact Nat.le_trans (List.length_filter_le _ _) (by simp)
def pendB (ns : List Nd) (n : Nat) : List Nd := pendJ ns n 11
def PendRel (w : World) (ns : List Nd) (n : Nat) (v kv : Value) (wr : World) : Prop :=
  ∃ (j : Nat) (r : List Nd) (ao : Option Addr) (cap : Nat), j ≤ 11 ∧ kv = .int .i64 (10 - (j : Int)) ∧ r = pendJ ns n j ∧ v = .slice ao r.length cap ∧ Holds w [] [] [rowA 34 ao cap r] wr
set_option maxRecDepth 100000 in
set_option maxHeartbeats 4000000 in
theorem pend_any (w0 w : World) (S : List Nat) (pre post : List (Nat × Obj)) (rows : List Row) (g n : Nat) (ns : List Nd) (hlen : ns.length = 11) (hn : n ≤ 1024) (hH : Holds w0 S (pre ++ (g, bldO ns n) :: post) rows w) :
    Calls Try.prog 29 #[.pointer (some ⟨g, 0, none⟩)] w (RetAs 34 w (pendB ns n)) := by
  have HB := hid hH
  have HLEN := hid hlen
  have HH := hid (Holds.init w)
  clear hH hlen
  go_enter Try.func29, Try.ntmps29
  go_wp2_with (first
    | ((first
        | ((with_reducible apply wpL_skip); rfl; skip)
        | ((with_reducible apply wpL_nilCheck); rfl; rfl)
        | ((with_reducible apply wpL_fieldAddr); (first | exact kF37_0 | exact kF37_1); rfl; rfl)
        | ((with_reducible apply wpL_load1 (t := 3) kO3 HH.out); rfl; (first | exact .here | exact .there .here | exact .there (.there .here) | exact .there (.there (.there .here)) | exact .there (.there (.there (.there .here))) | exact .there (.there (.there (.there (.there .here)))) | exact .there (.there (.there (.there (.there (.there .here))))) | exact .there (.there (.there (.there (.there (.there (.there .here))))))); rfl; rfl)
        | ((with_reducible apply wpL_loadArr (t := 34) kA34 HH.out); rfl; (first | exact .here | exact .there .here | exact .there (.there .here) | exact .there (.there (.there .here)) | exact .there (.there (.there (.there .here))) | exact .there (.there (.there (.there (.there .here)))) | exact .there (.there (.there (.there (.there (.there .here))))) | exact .there (.there (.there (.there (.there (.there (.there .here))))))); rfl)
        | ((with_reducible apply wpL_loadC (t := 34) kA34 HH.out); rfl; (first | exact .here | exact .there .here | exact .there (.there .here) | exact .there (.there (.there .here)) | exact .there (.there (.there (.there .here))) | exact .there (.there (.there (.there (.there .here)))) | exact .there (.there (.there (.there (.there (.there .here))))) | exact .there (.there (.there (.there (.there (.there (.there .here))))))); (first | rfl | exact Arr.len _ | (simp; done)); rfl)
        | ((with_reducible apply wpL_move); rfl; rfl)
        | ((with_reducible apply wpL_assign); rfl; rfl)
        | ((with_reducible apply wpL_pick); rfl; rfl; rfl)
        | ((with_reducible apply wpL_not); rfl; rfl)
        | ((with_reducible apply wpL_cmp (b := true)); rfl; rfl; rfl; (first | rfl | assumption | (simp only [cmpB, decide_eq_true_eq, decide_eq_false_iff_not, beq_iff_eq, bne_iff_ne, ne_eq, beq_eq_false_iff_ne, bne_eq_false_iff_eq, gt_iff_lt, ge_iff_le]; omega) | (simp; omega)); rfl)
        | ((with_reducible apply wpL_cmp (b := false)); rfl; rfl; rfl; (first | rfl | assumption | (simp only [cmpB, decide_eq_true_eq, decide_eq_false_iff_not, beq_iff_eq, bne_iff_ne, ne_eq, beq_eq_false_iff_ne, bne_eq_false_iff_eq, gt_iff_lt, ge_iff_le]; omega) | (simp; omega)); rfl)
        | ((with_reducible apply wpL_cmp); rfl; rfl; rfl; rfl; rfl)
        | ((with_reducible apply wpL_arith); rfl; rfl; rfl; (exact IntWalk.i64_in _ (by (try simp only [arithI]); omega)); rfl)); (try simp only [arithI, Act.put, Act.eval, List.setIfInBounds_toArray, List.set_cons_succ, List.set_cons_zero, Array.getD_eq_getD_getElem?, List.getElem?_toArray, List.getElem?_cons_succ, List.getElem?_cons_zero, Option.getD_some])))
  go_loopw [3, 4] (PendRel w ns n) (fun _ kv _ => ((intOf kv) + 1).toNat)
  case atStart => exact ⟨0, [], none, 0, by omega, rfl, rfl, rfl, HH.out.addNil 34 16⟩
  case round =>
    obtain ⟨j, r, ao1, cap1, hj, rfl, hrj, rfl, hr⟩ := hrel
    clear HH
    have HH := hid hr
    have HRJ := hid hrj
    have hrl : r.length ≤ j := by rw [hrj]; exact pendJ_len _ _ _
    clear hr hrj
    by_cases hlt : j < 11
    · obtain ⟨k, hk⟩ : ∃ k, 10 - j = k := ⟨_, rfl⟩
      have HKI := hid (show (10 - (j : Int)) = (k : Int) by omega)
      obtain ⟨q, hq⟩ : ∃ q, n / 2 ^ k = q := ⟨_, rfl⟩
      have hq10 : q ≤ 1024 := by rw [← hq]; exact Nat.le_trans (Nat.div_le_self _ _) hn
      have HQ1 := hid hq
      have HB1 := hid (show q < 2 ^ IntKind.i64.bits from Nat.lt_of_lt_of_le (show q < 1025 by omega) (by decide))
      have hst := pendJ_succ ns n j
      rw [hk, hq, ← HRJ.out] at hst
      by_cases hbit : q % 2 = 1
      · have HAND := hid (show q &&& 1 = 1 by rw [Nat.and_one_is_mod]; exact hbit)
        obtain ⟨y, hy⟩ : ∃ y, ns.getD k Nd0 = y := ⟨_, rfl⟩
        rw [if_pos hbit, hy] at hst
        obtain ⟨r2, hr2⟩ : ∃ r2, r ++ [y] = r2 := ⟨_, rfl⟩
        have HY := hid hy
        have HR2 := hid hr2
        have HST := hid (show r2 = pendJ ns n (j + 1) by rw [hst, hr2])
        clear hst hr2 hy hbit hq
        go_wp2_with (first
          | ((first
              | ((with_reducible apply wpL_skip); rfl; skip)
              | ((with_reducible apply wpL_load1 (t := 3) (v := .int .i64 (n : Int)) kO3 (HB.out.grow HH.out.below)); rfl; (exact (Own.mid pre g _ post)); (exact bld_cnt HLEN.out); rfl)
              | ((with_reducible apply wpL_shrI (m := n) (k := k) (r := q)); rfl; rfl; rfl; (exact HKI.out); (exact (by omega)); (exact HQ1.out); rfl)
              | ((with_reducible apply wpL_and (m := q) (n := 1) (r := 1)); rfl; rfl; rfl; rfl; (exact HB1.out); (exact (by decide)); (exact HAND.out); (exact (by decide)); rfl)
              | ((with_reducible apply wpL_indexE (dst := some 25) (m := k) Try.underlying35 kS34 (by decide)); rfl; rfl; (exact HKI.out); (exact (by omega)); rfl)
              | ((with_reducible apply wpL_loadPA (dst := some 26) (t := 34) (v := y) kA34 (HB.out.grow HH.out.below)); rfl; (exact (Own.mid pre g _ post)); (exact bld_node HLEN.out (by omega) HY.out); rfl)
              | ((with_reducible apply wpL_buildA kE46 y (by decide)); rfl; (exact HH.out); rfl; (intro g_ w_ hq_; clear HH; have HH := hid hq_; clear hq_))
              | ((with_reducible apply wpL_appendA (l := r) (l2 := [y]) (r := r2) kE46 HH.out.swap HH.out.sl0 HR2.out); rfl; rfl; (exact (by simp; omega)); rfl; rfl; rfl; (intro ao4 cap4 w_ hq_; clear HH; have HH := hid hq_.dropSnd; clear hq_))
              | ((with_reducible apply wpL_nilCheck); rfl; rfl)
              | ((with_reducible apply wpL_fieldAddr); (first | exact kF37_0 | exact kF37_1); rfl; rfl)
              | ((with_reducible apply wpL_load1 (t := 3) kO3 HH.out); rfl; (first | exact .here | exact .there .here | exact .there (.there .here) | exact .there (.there (.there .here)) | exact .there (.there (.there (.there .here))) | exact .there (.there (.there (.there (.there .here)))) | exact .there (.there (.there (.there (.there (.there .here))))) | exact .there (.there (.there (.there (.there (.there (.there .here))))))); rfl; rfl)
              | ((with_reducible apply wpL_loadArr (t := 34) kA34 HH.out); rfl; (first | exact .here | exact .there .here | exact .there (.there .here) | exact .there (.there (.there .here)) | exact .there (.there (.there (.there .here))) | exact .there (.there (.there (.there (.there .here)))) | exact .there (.there (.there (.there (.there (.there .here))))) | exact .there (.there (.there (.there (.there (.there (.there .here))))))); rfl)
              | ((with_reducible apply wpL_loadC (t := 34) kA34 HH.out); rfl; (first | exact .here | exact .there .here | exact .there (.there .here) | exact .there (.there (.there .here)) | exact .there (.there (.there (.there .here))) | exact .there (.there (.there (.there (.there .here)))) | exact .there (.there (.there (.there (.there (.there .here))))) | exact .there (.there (.there (.there (.there (.there (.there .here))))))); (first | rfl | exact Arr.len _ | (simp; done)); rfl)
              | ((with_reducible apply wpL_move); rfl; rfl)
              | ((with_reducible apply wpL_assign); rfl; rfl)
              | ((with_reducible apply wpL_pick); rfl; rfl; rfl)
              | ((with_reducible apply wpL_not); rfl; rfl)
              | ((with_reducible apply wpL_cmp (b := true)); rfl; rfl; rfl; (first | rfl | assumption | (simp only [cmpB, decide_eq_true_eq, decide_eq_false_iff_not, beq_iff_eq, bne_iff_ne, ne_eq, beq_eq_false_iff_ne, bne_eq_false_iff_eq, gt_iff_lt, ge_iff_le]; omega) | (simp; omega)); rfl)
              | ((with_reducible apply wpL_cmp (b := false)); rfl; rfl; rfl; (first | rfl | assumption | (simp only [cmpB, decide_eq_true_eq, decide_eq_false_iff_not, beq_iff_eq, bne_iff_ne, ne_eq, beq_eq_false_iff_ne, bne_eq_false_iff_eq, gt_iff_lt, ge_iff_le]; omega) | (simp; omega)); rfl)
              | ((with_reducible apply wpL_cmp); rfl; rfl; rfl; rfl; rfl)
              | ((with_reducible apply wpL_arith); rfl; rfl; rfl; (exact IntWalk.i64_in _ (by (try simp only [arithI]); omega)); rfl)); (try simp only [arithI, Act.put, Act.eval, List.setIfInBounds_toArray, List.set_cons_succ, List.set_cons_zero, Array.getD_eq_getD_getElem?, List.getElem?_toArray, List.getElem?_cons_succ, List.getElem?_cons_zero, Option.getD_some])))
        go_roundw
        case rel => exact ⟨j + 1, r2, _, _, by omega, by go_num, HST.out, rfl, HH.out⟩
        case measure => simp [intOf]; omega
      · have HAND := hid (show q &&& 1 = 0 by rw [Nat.and_one_is_mod]; omega)
        rw [if_neg hbit, List.append_nil] at hst
        have HST := hid hst.symm
        clear hst hbit hq
        go_wp2_with (first
          | ((first
              | ((with_reducible apply wpL_skip); rfl; skip)
              | ((with_reducible apply wpL_load1 (t := 3) (v := .int .i64 (n : Int)) kO3 (HB.out.grow HH.out.below)); rfl; (exact (Own.mid pre g _ post)); (exact bld_cnt HLEN.out); rfl)
              | ((with_reducible apply wpL_shrI (m := n) (k := k) (r := q)); rfl; rfl; rfl; (exact HKI.out); (exact (by omega)); (exact HQ1.out); rfl)
              | ((with_reducible apply wpL_and (m := q) (n := 1) (r := 0)); rfl; rfl; rfl; rfl; (exact HB1.out); (exact (by decide)); (exact HAND.out); (exact (by decide)); rfl)
              | ((with_reducible apply wpL_nilCheck); rfl; rfl)
              | ((with_reducible apply wpL_fieldAddr); (first | exact kF37_0 | exact kF37_1); rfl; rfl)
              | ((with_reducible apply wpL_load1 (t := 3) kO3 HH.out); rfl; (first | exact .here | exact .there .here | exact .there (.there .here) | exact .there (.there (.there .here)) | exact .there (.there (.there (.there .here))) | exact .there (.there (.there (.there (.there .here)))) | exact .there (.there (.there (.there (.there (.there .here))))) | exact .there (.there (.there (.there (.there (.there (.there .here))))))); rfl; rfl)
              | ((with_reducible apply wpL_loadArr (t := 34) kA34 HH.out); rfl; (first | exact .here | exact .there .here | exact .there (.there .here) | exact .there (.there (.there .here)) | exact .there (.there (.there (.there .here))) | exact .there (.there (.there (.there (.there .here)))) | exact .there (.there (.there (.there (.there (.there .here))))) | exact .there (.there (.there (.there (.there (.there (.there .here))))))); rfl)
              | ((with_reducible apply wpL_loadC (t := 34) kA34 HH.out); rfl; (first | exact .here | exact .there .here | exact .there (.there .here) | exact .there (.there (.there .here)) | exact .there (.there (.there (.there .here))) | exact .there (.there (.there (.there (.there .here)))) | exact .there (.there (.there (.there (.there (.there .here))))) | exact .there (.there (.there (.there (.there (.there (.there .here))))))); (first | rfl | exact Arr.len _ | (simp; done)); rfl)
              | ((with_reducible apply wpL_move); rfl; rfl)
              | ((with_reducible apply wpL_assign); rfl; rfl)
              | ((with_reducible apply wpL_pick); rfl; rfl; rfl)
              | ((with_reducible apply wpL_not); rfl; rfl)
              | ((with_reducible apply wpL_cmp (b := true)); rfl; rfl; rfl; (first | rfl | assumption | (simp only [cmpB, decide_eq_true_eq, decide_eq_false_iff_not, beq_iff_eq, bne_iff_ne, ne_eq, beq_eq_false_iff_ne, bne_eq_false_iff_eq, gt_iff_lt, ge_iff_le]; omega) | (simp; omega)); rfl)
              | ((with_reducible apply wpL_cmp (b := false)); rfl; rfl; rfl; (first | rfl | assumption | (simp only [cmpB, decide_eq_true_eq, decide_eq_false_iff_not, beq_iff_eq, bne_iff_ne, ne_eq, beq_eq_false_iff_ne, bne_eq_false_iff_eq, gt_iff_lt, ge_iff_le]; omega) | (simp; omega)); rfl)
              | ((with_reducible apply wpL_cmp); rfl; rfl; rfl; rfl; rfl)
              | ((with_reducible apply wpL_arith); rfl; rfl; rfl; (exact IntWalk.i64_in _ (by (try simp only [arithI]); omega)); rfl)); (try simp only [arithI, Act.put, Act.eval, List.setIfInBounds_toArray, List.set_cons_succ, List.set_cons_zero, Array.getD_eq_getD_getElem?, List.getElem?_toArray, List.getElem?_cons_succ, List.getElem?_cons_zero, Option.getD_some])))
        go_roundw
        case rel => exact ⟨j + 1, r, _, _, by omega, by go_num, HST.out, rfl, HH.out⟩
        case measure => simp [intOf]; omega
    · obtain rfl : j = 11 := by omega
      go_wp2_with (first
        | ((first
            | ((with_reducible apply wpL_skip); rfl; skip)
            | ((with_reducible apply wpL_nilCheck); rfl; rfl)
            | ((with_reducible apply wpL_fieldAddr); (first | exact kF37_0 | exact kF37_1); rfl; rfl)
            | ((with_reducible apply wpL_load1 (t := 3) kO3 HH.out); rfl; (first | exact .here | exact .there .here | exact .there (.there .here) | exact .there (.there (.there .here)) | exact .there (.there (.there (.there .here))) | exact .there (.there (.there (.there (.there .here)))) | exact .there (.there (.there (.there (.there (.there .here))))) | exact .there (.there (.there (.there (.there (.there (.there .here))))))); rfl; rfl)
            | ((with_reducible apply wpL_loadArr (t := 34) kA34 HH.out); rfl; (first | exact .here | exact .there .here | exact .there (.there .here) | exact .there (.there (.there .here)) | exact .there (.there (.there (.there .here))) | exact .there (.there (.there (.there (.there .here)))) | exact .there (.there (.there (.there (.there (.there .here))))) | exact .there (.there (.there (.there (.there (.there (.there .here))))))); rfl)
            | ((with_reducible apply wpL_loadC (t := 34) kA34 HH.out); rfl; (first | exact .here | exact .there .here | exact .there (.there .here) | exact .there (.there (.there .here)) | exact .there (.there (.there (.there .here))) | exact .there (.there (.there (.there (.there .here)))) | exact .there (.there (.there (.there (.there (.there .here))))) | exact .there (.there (.there (.there (.there (.there (.there .here))))))); (first | rfl | exact Arr.len _ | (simp; done)); rfl)
            | ((with_reducible apply wpL_move); rfl; rfl)
            | ((with_reducible apply wpL_assign); rfl; rfl)
            | ((with_reducible apply wpL_pick); rfl; rfl; rfl)
            | ((with_reducible apply wpL_not); rfl; rfl)
            | ((with_reducible apply wpL_cmp (b := true)); rfl; rfl; rfl; (first | rfl | assumption | (simp only [cmpB, decide_eq_true_eq, decide_eq_false_iff_not, beq_iff_eq, bne_iff_ne, ne_eq, beq_eq_false_iff_ne, bne_eq_false_iff_eq, gt_iff_lt, ge_iff_le]; omega) | (simp; omega)); rfl)
            | ((with_reducible apply wpL_cmp (b := false)); rfl; rfl; rfl; (first | rfl | assumption | (simp only [cmpB, decide_eq_true_eq, decide_eq_false_iff_not, beq_iff_eq, bne_iff_ne, ne_eq, beq_eq_false_iff_ne, bne_eq_false_iff_eq, gt_iff_lt, ge_iff_le]; omega) | (simp; omega)); rfl)
            | ((with_reducible apply wpL_cmp); rfl; rfl; rfl; rfl; rfl)
            | ((with_reducible apply wpL_arith); rfl; rfl; rfl; (exact IntWalk.i64_in _ (by (try simp only [arithI]); omega)); rfl)); (try simp only [arithI, Act.put, Act.eval, List.setIfInBounds_toArray, List.set_cons_succ, List.set_cons_zero, Array.getD_eq_getD_getElem?, List.getElem?_toArray, List.getElem?_cons_succ, List.getElem?_cons_zero, Option.getD_some])))
      go_ret
      exact RetAs.of HRJ.out HH.out.own0 HH.out.below
set_option maxRecDepth 100000 in
set_option maxHeartbeats 2000000 in
theorem pendNil_any (w : World) : Calls Try.prog 29 #[.pointer none] w (RetAs 34 w ([] : List Nd)) := by
  have HH := hid (Holds.init w)
  go_enter Try.func29, Try.ntmps29
  go_wp2_with (first
    | ((first
        | ((with_reducible apply wpL_skip); rfl; skip)
        | ((with_reducible apply wpL_nilCheck); rfl; rfl)
        | ((with_reducible apply wpL_fieldAddr); (first | exact kF37_0 | exact kF37_1); rfl; rfl)
        | ((with_reducible apply wpL_load1 (t := 3) kO3 HH.out); rfl; (first | exact .here | exact .there .here | exact .there (.there .here) | exact .there (.there (.there .here)) | exact .there (.there (.there (.there .here))) | exact .there (.there (.there (.there (.there .here)))) | exact .there (.there (.there (.there (.there (.there .here))))) | exact .there (.there (.there (.there (.there (.there (.there .here))))))); rfl; rfl)
        | ((with_reducible apply wpL_loadArr (t := 34) kA34 HH.out); rfl; (first | exact .here | exact .there .here | exact .there (.there .here) | exact .there (.there (.there .here)) | exact .there (.there (.there (.there .here))) | exact .there (.there (.there (.there (.there .here)))) | exact .there (.there (.there (.there (.there (.there .here))))) | exact .there (.there (.there (.there (.there (.there (.there .here))))))); rfl)
        | ((with_reducible apply wpL_loadC (t := 34) kA34 HH.out); rfl; (first | exact .here | exact .there .here | exact .there (.there .here) | exact .there (.there (.there .here)) | exact .there (.there (.there (.there .here))) | exact .there (.there (.there (.there (.there .here)))) | exact .there (.there (.there (.there (.there (.there .here))))) | exact .there (.there (.there (.there (.there (.there (.there .here))))))); (first | rfl | exact Arr.len _ | (simp; done)); rfl)
        | ((with_reducible apply wpL_move); rfl; rfl)
        | ((with_reducible apply wpL_assign); rfl; rfl)
        | ((with_reducible apply wpL_pick); rfl; rfl; rfl)
        | ((with_reducible apply wpL_not); rfl; rfl)
        | ((with_reducible apply wpL_cmp (b := true)); rfl; rfl; rfl; (first | rfl | assumption | (simp only [cmpB, decide_eq_true_eq, decide_eq_false_iff_not, beq_iff_eq, bne_iff_ne, ne_eq, beq_eq_false_iff_ne, bne_eq_false_iff_eq, gt_iff_lt, ge_iff_le]; omega) | (simp; omega)); rfl)
        | ((with_reducible apply wpL_cmp (b := false)); rfl; rfl; rfl; (first | rfl | assumption | (simp only [cmpB, decide_eq_true_eq, decide_eq_false_iff_not, beq_iff_eq, bne_iff_ne, ne_eq, beq_eq_false_iff_ne, bne_eq_false_iff_eq, gt_iff_lt, ge_iff_le]; omega) | (simp; omega)); rfl)
        | ((with_reducible apply wpL_cmp); rfl; rfl; rfl; rfl; rfl)
        | ((with_reducible apply wpL_arith); rfl; rfl; rfl; (exact IntWalk.i64_in _ (by (try simp only [arithI]); omega)); rfl)); (try simp only [arithI, Act.put, Act.eval, List.setIfInBounds_toArray, List.set_cons_succ, List.set_cons_zero, Array.getD_eq_getD_getElem?, List.getElem?_toArray, List.getElem?_cons_succ, List.getElem?_cons_zero, Option.getD_some])))
  go_ret
  exact RetAs.of (l := []) rfl (World.ownsRow_nil _ _ _ _) HH.out.below
def bRootC (l : List Nd) : Int := if l.length = 1 then 0 else 10
def bRootV (l : List Nd) : Nd := if l.length = 1 then l.getD 0 Nd0 else Nd0
set_option maxRecDepth 100000 in
set_option maxHeartbeats 4000000 in
theorem rootB_any (w0 w : World) (S : List Nat) (pre post : List (Nat × Obj)) (rows : List Row) (g n : Nat) (ns : List Nd) (hlen : ns.length = 11) (hn : n ≤ 1024) (hH : Holds w0 S (pre ++ (g, bldO ns n) :: post) rows w) :
    Calls Try.prog 25 #[.pointer (some ⟨g, 0, none⟩)] w (RetR w (bRootV (pendB ns n)) (bRootC (pendB ns n))) := by
  have HB := hid hH
  have HH := hid (Holds.init w)
  clear hH
  obtain ⟨l, hl⟩ : ∃ l, pendB ns n = l := ⟨_, rfl⟩
  have HL := hid hl
  rw [hl]
  have hl11 : l.length ≤ 11 := by rw [← hl]; exact pendJ_len _ _ _
  clear hl
  by_cases h1 : l.length = 1
  · obtain ⟨y, hy⟩ : ∃ y, l.getD 0 Nd0 = y := ⟨_, rfl⟩
    have e1 : bRootC l = 0 := by unfold bRootC; rw [if_pos h1]
    have e2 : bRootV l = y := by unfold bRootV; rw [if_pos h1, hy]
    have HY := hid (show ∀ pf : 0 < l.length, l[0]'pf = y from fun pf => by rw [← hy]; simp [pf])
    rw [e1, e2]
    clear e1 e2 hy
    go_enter Try.func25, Try.ntmps25
    go_wp2_with (first
      | ((first
          | ((with_reducible apply wpL_skip); rfl; skip)
          | (go_at_call 29; (have hcall_ := hid (pend_any _ _ _ pre post _ g n ns hlen hn (HB.out.grow HH.out.dropBlk.below))); (with_reducible refine hcall_.out.mono ?_); clear hcall_; rw [HL.out]; rintro e_ w2_ ⟨ao1, cap1, rfl, hr_, hb_⟩; (have hq_ := HH.out.addRow hb_ hr_); clear HH; have HH := hid hq_; clear hq_ hb_ hr_; obtain ⟨ad1, cc1, er⟩ := HH.out.sl0.some (by omega); cases er)
          | ((with_reducible apply wpL_idx (dst := some 14) (j := 0) kE46); rfl; rfl; rfl; (exact (by omega)); rfl)
          | ((with_reducible apply wpL_loadEl (dst := some 15) (v := y) kA34 (get_as HH.out.sl0 (by omega) (HY.out (by omega)))); rfl; rfl)
          | ((with_reducible apply wpL_storeC (t := 34) (vs := y.cells)); rfl; rfl; (exact kS34); (exact HH.out); (exact .here); (exact Arr.len _); (exact cells_one _); (exact Arr.len _); rfl; (intro w_ hq_; clear HH; have HH := hid hq_; clear hq_))
          | ((with_reducible apply wpL_nilCheck); rfl; rfl)
          | ((with_reducible apply wpL_loadArr (t := 34) kA34 HH.out); rfl; (first | exact .here | exact .there .here | exact .there (.there .here) | exact .there (.there (.there .here)) | exact .there (.there (.there (.there .here))) | exact .there (.there (.there (.there (.there .here)))) | exact .there (.there (.there (.there (.there (.there .here))))) | exact .there (.there (.there (.there (.there (.there (.there .here))))))); rfl)
          | ((with_reducible apply wpL_loadC (t := 34) kA34 HH.out); rfl; (first | exact .here | exact .there .here | exact .there (.there .here) | exact .there (.there (.there .here)) | exact .there (.there (.there (.there .here))) | exact .there (.there (.there (.there (.there .here)))) | exact .there (.there (.there (.there (.there (.there .here))))) | exact .there (.there (.there (.there (.there (.there (.there .here))))))); (first | rfl | exact Arr.len _ | (simp; done)); rfl)
          | ((with_reducible apply wpL_len (t := 46) Try.underlying46); rfl; rfl)
          | ((with_reducible apply wpL_allocC (dst := some 2) kZ34 HH.out); rfl; (intro g2_ w_ hq_; (try simp only [List.set_cons_zero, List.set_cons_succ] at hq_); clear HH; have HH := hid hq_; clear hq_))
          | ((with_reducible apply wpL_storeArr (t := 34) kS34 HH.out); rfl; rfl; (first | exact .here | exact .there .here | exact .there (.there .here) | exact .there (.there (.there .here)) | exact .there (.there (.there (.there .here))) | exact .there (.there (.there (.there (.there .here)))) | exact .there (.there (.there (.there (.there (.there .here))))) | exact .there (.there (.there (.there (.there (.there (.there .here))))))); (first | rfl | exact Arr.len _ | (simp; done)); rfl; (intro w_ hq_; (try simp only [List.set_cons_zero, List.set_cons_succ] at hq_); clear HH; have HH := hid hq_; clear hq_))
          | ((with_reducible apply wpL_storeC (t := 34)); rfl; rfl; (exact kS34); (exact HH.out); (first | exact .here | exact .there .here | exact .there (.there .here) | exact .there (.there (.there .here)) | exact .there (.there (.there (.there .here))) | exact .there (.there (.there (.there (.there .here)))) | exact .there (.there (.there (.there (.there (.there .here))))) | exact .there (.there (.there (.there (.there (.there (.there .here))))))); (first | rfl | exact Arr.len _ | (simp; done)); (first | rfl | (intro u_ hu_; simp only [List.mem_cons, List.not_mem_nil, or_false] at hu_; rcases hu_ with rfl | hu_; rfl) | exact byt_cell1 _ | exact cells_one _ | exact wrd_one _ | exact flat_cell1 _); (first | rfl | exact Arr.len _ | (simp; done)); rfl; (intro w_ hq_; (try simp only [List.set_cons_zero, List.set_cons_succ] at hq_); clear HH; have HH := hid hq_; clear hq_))
          | ((with_reducible apply wpL_move); rfl; rfl)
          | ((with_reducible apply wpL_assign); rfl; rfl)
          | ((with_reducible apply wpL_pick); rfl; rfl; rfl)
          | ((with_reducible apply wpL_not); rfl; rfl)
          | ((with_reducible apply wpL_cmp (b := true)); rfl; rfl; rfl; (first | rfl | assumption | (simp only [cmpB, decide_eq_true_eq, decide_eq_false_iff_not, beq_iff_eq, bne_iff_ne, ne_eq, beq_eq_false_iff_ne, bne_eq_false_iff_eq, gt_iff_lt, ge_iff_le]; omega) | (simp; omega)); rfl)
          | ((with_reducible apply wpL_cmp (b := false)); rfl; rfl; rfl; (first | rfl | assumption | (simp only [cmpB, decide_eq_true_eq, decide_eq_false_iff_not, beq_iff_eq, bne_iff_ne, ne_eq, beq_eq_false_iff_ne, bne_eq_false_iff_eq, gt_iff_lt, ge_iff_le]; omega) | (simp; omega)); rfl)
          | ((with_reducible apply wpL_cmp); rfl; rfl; rfl; rfl; rfl)
          | ((with_reducible apply wpL_arith); rfl; rfl; rfl; (exact IntWalk.i64_in _ (by (try simp only [arithI]); omega)); rfl)); (try simp only [arithI, Act.put, Act.eval, List.setIfInBounds_toArray, List.set_cons_succ, List.set_cons_zero, Array.getD_eq_getD_getElem?, List.getElem?_toArray, List.getElem?_cons_succ, List.getElem?_cons_zero, Option.getD_some])))
    refine bodyPost_ret (res2 rfl (resC kA34 HH.out (by rfl) .here (Arr.len _)) (by rfl)) rfl ?_
    exact RetR.mk rfl rfl HH.out.dropRow.dropBlk.below
  · have e1 : bRootC l = 10 := by unfold bRootC; rw [if_neg h1]
    have e2 : bRootV l = Nd0 := by unfold bRootV; rw [if_neg h1]
    rw [e1, e2]
    clear e1 e2
    have h1b : ((l.length : Int) == 1) = false := by simp; omega
    go_enter Try.func25, Try.ntmps25
    go_wp2_with (first
      | ((first
          | ((with_reducible apply wpL_skip); rfl; skip)
          | (go_at_call 29; (have hcall_ := hid (pend_any _ _ _ pre post _ g n ns hlen hn (HB.out.grow HH.out.dropBlk.below))); (with_reducible refine hcall_.out.mono ?_); clear hcall_; rw [HL.out]; rintro e_ w2_ ⟨ao1, cap1, rfl, hr_, hb_⟩; (have hq_ := HH.out.grow hb_); clear HH; have HH := hid hq_; clear hq_ hb_ hr_)
          | ((with_reducible apply wpList_build (parts := #[]) (v := Nd0.val)); (exact BZ34); rfl)
          | ((with_reducible apply wpL_storeC (t := 34) (vs := Nd0.cells)); rfl; rfl; (exact kS34); (exact HH.out); (exact .here); (exact Arr.len _); (exact cells_one _); (exact Arr.len _); rfl; (intro w_ hq_; clear HH; have HH := hid hq_; clear hq_))
          | ((with_reducible apply wpL_nilCheck); rfl; rfl)
          | ((with_reducible apply wpL_loadArr (t := 34) kA34 HH.out); rfl; (first | exact .here | exact .there .here | exact .there (.there .here) | exact .there (.there (.there .here)) | exact .there (.there (.there (.there .here))) | exact .there (.there (.there (.there (.there .here)))) | exact .there (.there (.there (.there (.there (.there .here))))) | exact .there (.there (.there (.there (.there (.there (.there .here))))))); rfl)
          | ((with_reducible apply wpL_loadC (t := 34) kA34 HH.out); rfl; (first | exact .here | exact .there .here | exact .there (.there .here) | exact .there (.there (.there .here)) | exact .there (.there (.there (.there .here))) | exact .there (.there (.there (.there (.there .here)))) | exact .there (.there (.there (.there (.there (.there .here))))) | exact .there (.there (.there (.there (.there (.there (.there .here))))))); (first | rfl | exact Arr.len _ | (simp; done)); rfl)
          | ((with_reducible apply wpL_len (t := 46) Try.underlying46); rfl; rfl)
          | ((with_reducible apply wpL_allocC (dst := some 2) kZ34 HH.out); rfl; (intro g2_ w_ hq_; (try simp only [List.set_cons_zero, List.set_cons_succ] at hq_); clear HH; have HH := hid hq_; clear hq_))
          | ((with_reducible apply wpL_storeArr (t := 34) kS34 HH.out); rfl; rfl; (first | exact .here | exact .there .here | exact .there (.there .here) | exact .there (.there (.there .here)) | exact .there (.there (.there (.there .here))) | exact .there (.there (.there (.there (.there .here)))) | exact .there (.there (.there (.there (.there (.there .here))))) | exact .there (.there (.there (.there (.there (.there (.there .here))))))); (first | rfl | exact Arr.len _ | (simp; done)); rfl; (intro w_ hq_; (try simp only [List.set_cons_zero, List.set_cons_succ] at hq_); clear HH; have HH := hid hq_; clear hq_))
          | ((with_reducible apply wpL_storeC (t := 34)); rfl; rfl; (exact kS34); (exact HH.out); (first | exact .here | exact .there .here | exact .there (.there .here) | exact .there (.there (.there .here)) | exact .there (.there (.there (.there .here))) | exact .there (.there (.there (.there (.there .here)))) | exact .there (.there (.there (.there (.there (.there .here))))) | exact .there (.there (.there (.there (.there (.there (.there .here))))))); (first | rfl | exact Arr.len _ | (simp; done)); (first | rfl | (intro u_ hu_; simp only [List.mem_cons, List.not_mem_nil, or_false] at hu_; rcases hu_ with rfl | hu_; rfl) | exact byt_cell1 _ | exact cells_one _ | exact wrd_one _ | exact flat_cell1 _); (first | rfl | exact Arr.len _ | (simp; done)); rfl; (intro w_ hq_; (try simp only [List.set_cons_zero, List.set_cons_succ] at hq_); clear HH; have HH := hid hq_; clear hq_))
          | ((with_reducible apply wpL_move); rfl; rfl)
          | ((with_reducible apply wpL_assign); rfl; rfl)
          | ((with_reducible apply wpL_pick); rfl; rfl; rfl)
          | ((with_reducible apply wpL_not); rfl; rfl)
          | ((with_reducible apply wpL_cmp (b := true)); rfl; rfl; rfl; (first | rfl | assumption | (simp only [cmpB, decide_eq_true_eq, decide_eq_false_iff_not, beq_iff_eq, bne_iff_ne, ne_eq, beq_eq_false_iff_ne, bne_eq_false_iff_eq, gt_iff_lt, ge_iff_le]; omega) | (simp; omega)); rfl)
          | ((with_reducible apply wpL_cmp (b := false)); rfl; rfl; rfl; (first | rfl | assumption | (simp only [cmpB, decide_eq_true_eq, decide_eq_false_iff_not, beq_iff_eq, bne_iff_ne, ne_eq, beq_eq_false_iff_ne, bne_eq_false_iff_eq, gt_iff_lt, ge_iff_le]; omega) | (simp; omega)); rfl)
          | ((with_reducible apply wpL_cmp); rfl; rfl; rfl; rfl; rfl)
          | ((with_reducible apply wpL_arith); rfl; rfl; rfl; (exact IntWalk.i64_in _ (by (try simp only [arithI]); omega)); rfl)); (try simp only [arithI, Act.put, Act.eval, List.setIfInBounds_toArray, List.set_cons_succ, List.set_cons_zero, Array.getD_eq_getD_getElem?, List.getElem?_toArray, List.getElem?_cons_succ, List.getElem?_cons_zero, Option.getD_some])))
    refine bodyPost_ret (res2 rfl (resC kA34 HH.out (by rfl) .here (Arr.len _)) (by rfl)) rfl ?_
    exact RetR.mk rfl rfl HH.out.dropBlk.below
set_option maxRecDepth 100000 in
set_option maxHeartbeats 2000000 in
theorem rootNilB_any (w : World) : Calls Try.prog 25 #[.pointer none] w (RetR w Nd0 1) := by
  have HH := hid (Holds.init w)
  go_enter Try.func25, Try.ntmps25
  go_wp2_with (first
    | ((first
        | ((with_reducible apply wpL_skip); rfl; skip)
        | ((with_reducible apply wpList_build (parts := #[]) (v := Nd0.val)); (exact BZ34); rfl)
        | ((with_reducible apply wpL_storeC (t := 34) (vs := Nd0.cells)); rfl; rfl; (exact kS34); (exact HH.out); (exact .here); (exact Arr.len _); (exact cells_one _); (exact Arr.len _); rfl; (intro w_ hq_; clear HH; have HH := hid hq_; clear hq_))
        | ((with_reducible apply wpL_nilCheck); rfl; rfl)
        | ((with_reducible apply wpL_loadArr (t := 34) kA34 HH.out); rfl; (first | exact .here | exact .there .here | exact .there (.there .here) | exact .there (.there (.there .here)) | exact .there (.there (.there (.there .here))) | exact .there (.there (.there (.there (.there .here)))) | exact .there (.there (.there (.there (.there (.there .here))))) | exact .there (.there (.there (.there (.there (.there (.there .here))))))); rfl)
        | ((with_reducible apply wpL_loadC (t := 34) kA34 HH.out); rfl; (first | exact .here | exact .there .here | exact .there (.there .here) | exact .there (.there (.there .here)) | exact .there (.there (.there (.there .here))) | exact .there (.there (.there (.there (.there .here)))) | exact .there (.there (.there (.there (.there (.there .here))))) | exact .there (.there (.there (.there (.there (.there (.there .here))))))); (first | rfl | exact Arr.len _ | (simp; done)); rfl)
        | ((with_reducible apply wpL_len (t := 46) Try.underlying46); rfl; rfl)
        | ((with_reducible apply wpL_allocC (dst := some 2) kZ34 HH.out); rfl; (intro g2_ w_ hq_; (try simp only [List.set_cons_zero, List.set_cons_succ] at hq_); clear HH; have HH := hid hq_; clear hq_))
        | ((with_reducible apply wpL_storeArr (t := 34) kS34 HH.out); rfl; rfl; (first | exact .here | exact .there .here | exact .there (.there .here) | exact .there (.there (.there .here)) | exact .there (.there (.there (.there .here))) | exact .there (.there (.there (.there (.there .here)))) | exact .there (.there (.there (.there (.there (.there .here))))) | exact .there (.there (.there (.there (.there (.there (.there .here))))))); (first | rfl | exact Arr.len _ | (simp; done)); rfl; (intro w_ hq_; (try simp only [List.set_cons_zero, List.set_cons_succ] at hq_); clear HH; have HH := hid hq_; clear hq_))
        | ((with_reducible apply wpL_storeC (t := 34)); rfl; rfl; (exact kS34); (exact HH.out); (first | exact .here | exact .there .here | exact .there (.there .here) | exact .there (.there (.there .here)) | exact .there (.there (.there (.there .here))) | exact .there (.there (.there (.there (.there .here)))) | exact .there (.there (.there (.there (.there (.there .here))))) | exact .there (.there (.there (.there (.there (.there (.there .here))))))); (first | rfl | exact Arr.len _ | (simp; done)); (first | rfl | (intro u_ hu_; simp only [List.mem_cons, List.not_mem_nil, or_false] at hu_; rcases hu_ with rfl | hu_; rfl) | exact byt_cell1 _ | exact cells_one _ | exact wrd_one _ | exact flat_cell1 _); (first | rfl | exact Arr.len _ | (simp; done)); rfl; (intro w_ hq_; (try simp only [List.set_cons_zero, List.set_cons_succ] at hq_); clear HH; have HH := hid hq_; clear hq_))
        | ((with_reducible apply wpL_move); rfl; rfl)
        | ((with_reducible apply wpL_assign); rfl; rfl)
        | ((with_reducible apply wpL_pick); rfl; rfl; rfl)
        | ((with_reducible apply wpL_not); rfl; rfl)
        | ((with_reducible apply wpL_cmp (b := true)); rfl; rfl; rfl; (first | rfl | assumption | (simp only [cmpB, decide_eq_true_eq, decide_eq_false_iff_not, beq_iff_eq, bne_iff_ne, ne_eq, beq_eq_false_iff_ne, bne_eq_false_iff_eq, gt_iff_lt, ge_iff_le]; omega) | (simp; omega)); rfl)
        | ((with_reducible apply wpL_cmp (b := false)); rfl; rfl; rfl; (first | rfl | assumption | (simp only [cmpB, decide_eq_true_eq, decide_eq_false_iff_not, beq_iff_eq, bne_iff_ne, ne_eq, beq_eq_false_iff_ne, bne_eq_false_iff_eq, gt_iff_lt, ge_iff_le]; omega) | (simp; omega)); rfl)
        | ((with_reducible apply wpL_cmp); rfl; rfl; rfl; rfl; rfl)
        | ((with_reducible apply wpL_arith); rfl; rfl; rfl; (exact IntWalk.i64_in _ (by (try simp only [arithI]); omega)); rfl)); (try simp only [arithI, Act.put, Act.eval, List.setIfInBounds_toArray, List.set_cons_succ, List.set_cons_zero, Array.getD_eq_getD_getElem?, List.getElem?_toArray, List.getElem?_cons_succ, List.getElem?_cons_zero, Option.getD_some])))
  refine bodyPost_ret (res2 rfl (resC kA34 HH.out (by rfl) .here (Arr.len _)) (by rfl)) rfl ?_
  exact RetR.mk rfl rfl HH.out.dropBlk.below
end Go.Proofs.Ytgkfopodhikckaa

/- What a Builder keeps, plainly: the roots of the complete subtrees. Condition: at most 1024 leaves. -/
namespace Go.Proofs.Ytgkfopodhikckaa
open Go.RowKit
theorem levAt_length (l : List Nd) : ∀ k, (levAt l k).length = l.length / 2 ^ k
  | 0 => by rw [levAt, Nat.pow_zero, Nat.div_one]
  | k + 1 => by rw [levAt, upL_half, levAt_length l k, Nat.pow_succ, Nat.div_div_eq_div_mul]
theorem upL_take (lev : Nat) : ∀ (j : Nat) (l : List Nd), upL lev (l.take (2 * j)) = (upL lev l).take j
  | 0, l => by simp [upL]
  | j + 1, l => by
    match l with
    | [] => simp [upL]
    | [x] => simp [upL, show 2 * (j + 1) = 2 * j + 1 + 1 by omega]
    | x :: y :: r =>
      rw [show 2 * (j + 1) = 2 * j + 1 + 1 by omega, List.take_succ_cons, List.take_succ_cons, upL, upL, List.take_succ_cons, upL_take lev j r]
theorem levAt_take (l : List Nd) : ∀ k j, levAt (l.take (j * 2 ^ k)) k = (levAt l k).take j
  | 0, j => by rw [levAt, levAt, Nat.pow_zero, Nat.mul_one]
  | k + 1, j => by rw [levAt, levAt, show j * 2 ^ (k + 1) = (2 * j) * 2 ^ k by rw [Nat.pow_succ]; ac_rfl, levAt_take l k (2 * j), upL_take]
/-- A node of the first leaves is the same with more leaves. -/
theorem levAt_more (l m : List Nd) (k j : Nat) (h : j < l.length / 2 ^ k) : (levAt (l ++ m) k).getD j Nd0 = (levAt l k).getD j Nd0 := by
  have e1 := levAt_take (l ++ m) k (l.length / 2 ^ k)
  have e2 := levAt_take l k (l.length / 2 ^ k)
  have hle : l.length / 2 ^ k * 2 ^ k ≤ l.length := Nat.div_mul_le_self _ _
  rw [List.take_append_of_le_length hle, e2] at e1
  have g1 : ((levAt l k).take (l.length / 2 ^ k))[j]? = (levAt l k)[j]? := by rw [List.getElem?_take, if_pos h]
  have g2 : ((levAt (l ++ m) k).take (l.length / 2 ^ k))[j]? = (levAt (l ++ m) k)[j]? := by rw [List.getElem?_take, if_pos h]
  rw [List.getD_eq_getElem?_getD, List.getD_eq_getElem?_getD, ← g2, ← e1, g1]
/-- What a Builder keeps for the leaves l. -/
def BldOK (l ns : List Nd) : Prop := ns.length = 11 ∧ ∀ h, h ≤ 10 → (l.length / 2 ^ h) % 2 = 1 → ns.getD h Nd0 = (levAt l h).getD (l.length / 2 ^ h - 1) Nd0
theorem BldOK.nil : BldOK [] (List.replicate 11 Nd0) := ⟨by simp, fun h _ hb => by simp at hb⟩
theorem bits_add : ((List.range 1024).all fun n => (List.range 11).all fun k => (!(decide (k ≤ lowB n)) || (n + 1) / 2 ^ k == n / 2 ^ k + 1) && (!(decide (k < lowB n)) || ((n / 2 ^ k) % 2 == 1 && ((n + 1) / 2 ^ k) % 2 == 0)) && (decide (k ≤ lowB n) || (n + 1) / 2 ^ k == n / 2 ^ k)) = true := by decide +kernel
theorem bits_add' {n k : Nat} (hn : n < 1024) (hk : k ≤ 10) : (k ≤ lowB n → (n + 1) / 2 ^ k = n / 2 ^ k + 1) ∧ (k < lowB n → (n / 2 ^ k) % 2 = 1 ∧ ((n + 1) / 2 ^ k) % 2 = 0) ∧ (¬ k ≤ lowB n → (n + 1) / 2 ^ k = n / 2 ^ k) := by
  have := List.all_eq_true.1 (List.all_eq_true.1 bits_add n (by simp; omega)) k (by simp; omega)
  simp only [Bool.and_eq_true, Bool.or_eq_true, Bool.not_eq_true', beq_iff_eq, decide_eq_true_eq, decide_eq_false_iff_not] at this
  obtain ⟨⟨h1, h2⟩, h3⟩ := this
  refine ⟨fun h => ?_, fun h => ?_, fun h => ?_⟩
  · rcases h1 with h1 | h1
    · exact absurd h h1
    · exact h1
  · rcases h2 with h2 | h2
    · exact absurd h h2
    · exact h2
  · rcases h3 with h3 | h3
    · exact absurd h3 h
    · exact h3
theorem pred_lt_odd {m : Nat} (h : m % 2 = 1) : m - 1 < m := by omega
theorem curB_lev {l ns : List Nd} {x : Nd} (hb : BldOK l ns) (hn : l.length < 1024) : ∀ k, k ≤ lowB l.length → curB ns x k = (levAt (l ++ [x]) k).getD (l.length / 2 ^ k) Nd0
  | 0, _ => by rw [curB, levAt, Nat.pow_zero, Nat.div_one]; simp
  | k + 1, hk => by
    have hlow : lowB l.length ≤ 10 := lowB_all ⟨l.length, hn⟩
    have ih := curB_lev (x := x) hb hn k (by omega)
    have b1 := bits_add' hn (k := k) (by omega)
    have b2 := bits_add' hn (k := k + 1) (by omega)
    have hodd := (b1.2.1 (by omega)).1
    have hlt : l.length / 2 ^ (k + 1) < (levAt (l ++ [x]) (k + 1)).length := by
      rw [levAt_length, List.length_append, List.length_singleton, b2.1 hk]; omega
    have hdiv : l.length / 2 ^ (k + 1) = l.length / 2 ^ k / 2 := by rw [Nat.pow_succ, Nat.div_div_eq_div_mul]
    rw [curB, ih, hb.2 k (by omega) hodd, (levAt_join hlt).2, ← levAt_more l [x] k (l.length / 2 ^ k - 1) (pred_lt_odd hodd), hdiv]
    generalize l.length / 2 ^ k = m at *
    have h1 : 2 * (m / 2) = m - 1 := by omega
    have h2 : m - 1 + 1 = m := by omega
    rw [h1, h2]
    rfl
theorem BldOK.add {l ns : List Nd} {x : Nd} (hb : BldOK l ns) (hn : l.length < 1024) : BldOK (l ++ [x]) (addNs ns l.length x) := by
  refine ⟨by rw [addNs_len]; exact hb.1, fun h hh hbit => ?_⟩
  have hlow : lowB l.length ≤ 10 := lowB_all ⟨l.length, hn⟩
  have b := bits_add' hn hh
  rw [List.length_append, List.length_singleton] at hbit ⊢
  unfold addNs
  by_cases h1 : h = lowB l.length
  · subst h1
    rw [List.getD_eq_getElem?_getD, List.getElem?_set_self (by rw [hb.1]; omega), Option.getD_some, curB_lev hb hn _ (Nat.le_refl _), b.1 (Nat.le_refl _), Nat.add_sub_cancel]
  · rw [List.getD_eq_getElem?_getD, List.getElem?_set_ne (Ne.symm h1), ← List.getD_eq_getElem?_getD]
    by_cases h2 : h < lowB l.length
    · rw [(b.2.1 h2).2] at hbit; cases hbit
    · have e := b.2.2 (by omega)
      rw [e] at hbit ⊢
      rw [hb.2 h hh hbit, levAt_more l [x] h _ (pred_lt_odd hbit)]
/-- The roots of the complete subtrees, those of the levels from 10 down, j of them looked at. -/
def pendL (l : List Nd) (j : Nat) : List Nd := ((List.range j).filter fun i => (l.length / 2 ^ (10 - i)) % 2 == 1).map fun i => (levAt l (10 - i)).getD (l.length / 2 ^ (10 - i) - 1) Nd0
theorem pend_eq {l ns : List Nd} (hb : BldOK l ns) : pendB ns l.length = pendL l 11 := by
  unfold pendB pendJ pendL
  apply List.map_congr_left
  intro i hi
  simp only [List.mem_filter, beq_iff_eq] at hi
  exact hb.2 (10 - i) (by omega) hi.2
theorem pop_one : ((List.range 1025).all fun n => (((List.range 11).filter fun i => (n / 2 ^ (10 - i)) % 2 == 1).length == 1) == (decide (n ≠ 0) && n &&& (n - 1) == 0)) = true := by decide +kernel
theorem pop_pow : ((List.range 11).all fun h => ((List.range 11).filter fun i => (2 ^ h / 2 ^ (10 - i)) % 2 == 1) == [10 - h]) = true := by decide +kernel
/-- One root alone is kept just where the tree is whole. -/
theorem pendL_root {l : List Nd} (hn : l.length ≤ 1024) : (checkC l.length = 0 → bRootC (pendL l 11) = 0 ∧ bRootV (pendL l 11) = rootV l) ∧ (checkC l.length ≠ 0 → bRootC (pendL l 11) = 10 ∧ bRootV (pendL l 11) = rootV l) := by
  have h1 := List.all_eq_true.1 pop_one l.length (by simp; omega)
  have hlen : (pendL l 11).length = ((List.range 11).filter fun i => (l.length / 2 ^ (10 - i)) % 2 == 1).length := by unfold pendL; rw [List.length_map]
  refine ⟨fun hc => ?_, fun hc => ?_⟩
  · obtain ⟨h, hh, hl⟩ := check_pow hc
    have h2 := List.all_eq_true.1 pop_pow h (by simp; omega)
    rw [beq_iff_eq] at h2
    have e : pendL l 11 = [(levAt l h).getD 0 Nd0] := by
      unfold pendL
      rw [hl, h2]
      simp only [List.map_cons, List.map_nil]
      rw [show 10 - (10 - h) = h by omega, Nat.div_self (Nat.two_pow_pos h)]
    rw [e]
    refine ⟨rfl, ?_⟩
    unfold bRootV rootV rootN
    rw [if_pos hc, hl, Nat.log2_two_pow]
    rfl
  · have hne : ¬ (pendL l 11).length = 1 := by
      intro e
      rw [← hlen, e] at h1
      simp only [beq_self_eq_true, beq_iff_eq] at h1
      have h3 : (decide (l.length ≠ 0) && (l.length &&& (l.length - 1)) == 0) = true := h1.symm
      simp only [Bool.and_eq_true, decide_eq_true_eq, beq_iff_eq] at h3
      apply hc
      unfold checkC
      rw [if_neg h3.1, if_neg (by omega), if_pos h3.2]
    refine ⟨by unfold bRootC; rw [if_neg hne], ?_⟩
    unfold bRootV rootV
    rw [if_neg hne, if_neg hc]
end Go.Proofs.Ytgkfopodhikckaa

/- The law MerkleRoot. Condition: at most 70 leaves. -/
namespace Go.Proofs.Ytgkfopodhikckaa
open Go.RowKit
attribute [local irreducible] wpQuiet wpList
end Go.Proofs.Ytgkfopodhikckaa

/- Pending of the reference; the law MerkleBuilder. Condition: at most 70 leaves. -/
namespace Go.Proofs.Ytgkfopodhikckaa
open Go.RowKit
attribute [local irreducible] wpQuiet wpList
section
variable {P : Program} {ops : Array Oper} {rest : List Oper} {a : Act} {w : World} {Q : Exit → Act → World → Prop} {ρ : Operand → Value} {dst : Option Tmp} {ty : TypeId} {pos : String} {after : Array Edge} {guard : Option (Nat × Bool)}
end
end Go.Proofs.Ytgkfopodhikckaa

/- The law MerkleLimits. No condition. -/
namespace Go.Proofs.Ytgkfopodhikckaa
open Go.RowKit
attribute [local irreducible] wpQuiet wpList
section
variable {P : Program} {ops : Array Oper} {rest : List Oper} {a : Act} {w : World} {Q : Exit → Act → World → Prop} {dst : Option Tmp} {ty : TypeId} {pos : String} {after : Array Edge} {guard : Option (Nat × Bool)}
theorem wpL_remU {t yt : TypeId} {b : UInt8} {n r : Nat} {q : Int} {x y : Operand} (hx : a.eval x = byt b) (hy : a.eval y = .int .u8 q) (hq : q = (n : Int)) (hn : 0 < n) (hr : b.toNat % n = r)
    (hg : Region.wanted { dst := dst, op := .binOp .rem t x y yt, type := ty, pos := pos, after := after, guard := guard } (yielded ops a.tmps) = true)
    (h : wpList P ops Q rest (a.put dst (.int .u8 (r : Int))) w) : wpList P ops Q ({ dst := dst, op := .binOp .rem t x y yt, type := ty, pos := pos, after := after, guard := guard } :: rest) a w := by
  subst hq hr
  have he : ∀ u v, eqGuard .rem t x y u v = pure () := fun _ _ => rfl
  exact wpList_ex hg (by simp only [execOp, hx, hy, byt, Sem.run_bind, he, Sem.run_pure, Result.andThen_ok, run_remB t _ n hn]) h
theorem wpL_toInt {s d : TypeId} {z : TypeDesc} {x : Operand} {k : IntKind} {i r : Int} (hs : P.underlying s = some z) (hd : P.underlying d = some (.int .i64)) (hx : a.eval x = .int k i) (hw : IntKind.i64.wrap i = r)
    (hg : Region.wanted { dst := dst, op := .convert s d x, type := ty, pos := pos, after := after, guard := guard } (yielded ops a.tmps) = true)
    (h : wpList P ops Q rest (a.put dst (.int .i64 r)) w) : wpList P ops Q ({ dst := dst, op := .convert s d x, type := ty, pos := pos, after := after, guard := guard } :: rest) a w := by
  subst hw
  have hr : (convert s d (.int k i)).run P w = .ok (.int .i64 (IntKind.i64.wrap i)) w := by
    simp only [convert, Sem.run_bind, run_underlying hs, run_underlying hd, Result.andThen_ok, Conv.intToInt, Sem.run_pure]
  exact wpList_ex hg (by simp only [execOp, hx, Sem.run_bind, hr, Result.andThen_ok, Sem.run_pure]) h
end
/-- The root of 2^k equal leaves. -/
def upN (x : Nd) : Nat → Nd
  | 0 => x
  | k + 1 => joinN ((k : Int) + 1) (upN x k) (upN x k)
theorem upL_rep (lev : Nat) (y : Nd) : ∀ m, upL lev (List.replicate (2 * m) y) = List.replicate m (joinN (lev : Int) y y)
  | 0 => by simp [upL]
  | m + 1 => by rw [show 2 * (m + 1) = 2 * m + 1 + 1 by omega, List.replicate_succ, List.replicate_succ, upL, upL_rep lev y m, List.replicate_succ]
theorem levAt_rep (x : Nd) : ∀ k m, levAt (List.replicate (m * 2 ^ k) x) k = List.replicate m (upN x k)
  | 0, m => by rw [levAt, Nat.pow_zero, Nat.mul_one, upN]
  | k + 1, m => by
    rw [levAt, show m * 2 ^ (k + 1) = (2 * m) * 2 ^ k by rw [Nat.pow_succ]; ac_rfl, levAt_rep x k (2 * m), upL_rep, upN]
    rfl
theorem check_most : checkC 1024 = 0 := by decide +kernel
theorem log_most : Nat.log2 1024 = 10 := by decide +kernel
theorem root_rep (x : Nd) (r : List Nd) (hr : r = List.replicate 1024 x) : checkC r.length = 0 ∧ rootV r = upN x 10 := by
  have hl : r.length = 1024 := by rw [hr, List.length_replicate]
  refine ⟨by rw [hl]; exact check_most, ?_⟩
  unfold rootV rootN
  have h := levAt_rep x 10 1
  rw [Nat.one_mul] at h
  rw [hl, if_pos check_most, log_most, hr, h]
  rfl
theorem check_over {n : Nat} (h : 1024 < n) : checkC n = 9 := by unfold checkC; rw [if_neg (by omega), if_pos h]
def LimRel1 (w : World) (x : Nd) (bs : List (Nat × Obj)) (gb : Nat) (v9 kv : Value) (wr : World) : Prop :=
  ∃ (k : Nat) (ns r : List Nd) (ao : Option Addr) (cap : Nat), k ≤ 1024 ∧ kv = .int .i64 k ∧ r = List.replicate k x ∧ v9 = .slice ao r.length cap ∧ BldOK r ns ∧ Holds w [] ((gb, bldO ns k) :: bs) [rowA 34 ao cap r] wr
def LimRel2 (w : World) (x : Nd) (bs : List (Nat × Obj)) (rows : List Row) (g11 : Nat) (kv : Value) (wr : World) : Prop :=
  ∃ j : Nat, j ≤ 10 ∧ kv = .int .i64 ((j : Int) + 1) ∧ Holds w [] ((g11, objC (upN x j).cells 34) :: bs) rows wr
def LimRel3 (w : World) (x : Nd) (bs : List (Nat × Obj)) (q : Nat) (v9 kv : Value) (wr : World) : Prop :=
  ∃ (i : Nat) (r : List Nd) (ao : Option Addr) (cap : Nat), i ≤ q + 1 ∧ kv = .int .i64 i ∧ r = List.replicate (1024 + i) x ∧ v9 = .slice ao r.length cap ∧ Holds w [] bs [rowA 34 ao cap r] wr
set_option maxRecDepth 100000 in
set_option maxHeartbeats 8000000 in
theorem law_limits (w : World) (x : Nd) (m : UInt8) : Calls Try.prog 7 #[x.val, byt m] w (RetB w true) := by
  have HH := hid (Holds.init w)
  go_enter Try.func7, Try.ntmps7
  go_wp2_with (first
    | ((first
        | ((with_reducible apply wpL_skip); rfl; skip)
        | (go_at_call 23; (first | ((have hcall_ := hid (knownM_any _)); (with_reducible refine hcall_.out.mono ?_); clear hcall_) | (with_reducible refine (knownM_any _).mono ?_)); rintro e_ w2_ ⟨rfl, hb_⟩; (have hq_ := HH.out.grow hb_); clear HH; have HH := hid hq_; clear hq_ hb_)
        | (go_at_call 25; (with_reducible refine (rootNilB_any _).mono ?_); rintro e_ w2_ ⟨rfl, hb_⟩; (have hq_ := HH.out.grow hb_); clear HH; have HH := hid hq_; clear hq_ hb_)
        | (go_at_call 31; (with_reducible refine (addNilB_any _ x).mono ?_); rintro e_ w2_ ⟨rfl, hb_⟩; (have hq_ := HH.out.grow hb_); clear HH; have HH := hid hq_; clear hq_ hb_)
        | (go_at_call 27; (with_reducible refine (lenNilB_any _).mono ?_); rintro e_ w2_ ⟨rfl, hb_⟩; (have hq_ := HH.out.grow hb_); clear HH; have HH := hid hq_; clear hq_ hb_)
        | (go_at_call 29; (with_reducible refine (pendNil_any _).mono ?_); rintro e_ w2_ ⟨ao0, cap0, rfl, hr_, hb_⟩; (have hq_ := HH.out.grow hb_); clear HH; have HH := hid hq_; clear hq_ hb_ hr_)
        | (go_at_call 24; (have hcall_ := hid (newB_any w _ [] _ [] HH.out)); (with_reducible refine hcall_.out.mono ?_); clear hcall_; rintro e_ w2_ ⟨gb, rfl, hq_⟩; clear HH; have HH := hid hq_; clear hq_)
        | ((with_reducible apply wpL_nilCheck); rfl; rfl)
        | ((with_reducible apply wpL_loadArr (t := 34) kA34 HH.out); rfl; (first | exact .here | exact .there .here | exact .there (.there .here) | exact .there (.there (.there .here)) | exact .there (.there (.there (.there .here))) | exact .there (.there (.there (.there (.there .here)))) | exact .there (.there (.there (.there (.there (.there .here))))) | exact .there (.there (.there (.there (.there (.there (.there .here))))))); rfl)
        | ((with_reducible apply wpL_loadC (t := 34) kA34 HH.out); rfl; (first | exact .here | exact .there .here | exact .there (.there .here) | exact .there (.there (.there .here)) | exact .there (.there (.there (.there .here))) | exact .there (.there (.there (.there (.there .here)))) | exact .there (.there (.there (.there (.there (.there .here))))) | exact .there (.there (.there (.there (.there (.there (.there .here))))))); (first | rfl | exact Arr.len _ | (simp; done)); rfl)
        | ((with_reducible apply wpL_loadArr (t := 41) kA41 HH.out); rfl; (first | exact .here | exact .there .here | exact .there (.there .here) | exact .there (.there (.there .here)) | exact .there (.there (.there (.there .here))) | exact .there (.there (.there (.there (.there .here)))) | exact .there (.there (.there (.there (.there (.there .here))))) | exact .there (.there (.there (.there (.there (.there (.there .here))))))); rfl)
        | ((with_reducible apply wpL_loadC (t := 41) kA41 HH.out); rfl; (first | exact .here | exact .there .here | exact .there (.there .here) | exact .there (.there (.there .here)) | exact .there (.there (.there (.there .here))) | exact .there (.there (.there (.there (.there .here)))) | exact .there (.there (.there (.there (.there (.there .here))))) | exact .there (.there (.there (.there (.there (.there (.there .here))))))); (first | rfl | exact Arr.len _ | (simp; done)); rfl)
        | ((with_reducible apply wpL_len (t := 46) Try.underlying46); rfl; rfl)
        | ((with_reducible apply wpL_boxArr (dst := some 2)); rfl; (exact HH.out); rfl; (intro g2_ w_ hq_; (try simp only [List.set_cons_zero, List.set_cons_succ] at hq_); clear HH; have HH := hid hq_; clear hq_))
        | ((with_reducible apply wpL_allocC (dst := some 6) kZ34 HH.out); rfl; (intro g6_ w_ hq_; (try simp only [List.set_cons_zero, List.set_cons_succ] at hq_); clear HH; have HH := hid hq_; clear hq_))
        | ((with_reducible apply wpL_allocC (dst := some 11) kZ34 HH.out); rfl; (intro g11_ w_ hq_; (try simp only [List.set_cons_zero, List.set_cons_succ] at hq_); clear HH; have HH := hid hq_; clear hq_))
        | ((with_reducible apply wpL_allocC (dst := some 13) kZ34 HH.out); rfl; (intro g13_ w_ hq_; (try simp only [List.set_cons_zero, List.set_cons_succ] at hq_); clear HH; have HH := hid hq_; clear hq_))
        | ((with_reducible apply wpL_allocC (dst := some 15) kZ34 HH.out); rfl; (intro g15_ w_ hq_; (try simp only [List.set_cons_zero, List.set_cons_succ] at hq_); clear HH; have HH := hid hq_; clear hq_))
        | ((with_reducible apply wpL_allocC (dst := some 18) kZ34 HH.out); rfl; (intro g18_ w_ hq_; (try simp only [List.set_cons_zero, List.set_cons_succ] at hq_); clear HH; have HH := hid hq_; clear hq_))
        | ((with_reducible apply wpL_storeArr (t := 34) kS34 HH.out); rfl; rfl; (first | exact .here | exact .there .here | exact .there (.there .here) | exact .there (.there (.there .here)) | exact .there (.there (.there (.there .here))) | exact .there (.there (.there (.there (.there .here)))) | exact .there (.there (.there (.there (.there (.there .here))))) | exact .there (.there (.there (.there (.there (.there (.there .here))))))); (first | rfl | exact Arr.len _ | (simp; done)); rfl; (intro w_ hq_; (try simp only [List.set_cons_zero, List.set_cons_succ] at hq_); clear HH; have HH := hid hq_; clear hq_))
        | ((with_reducible apply wpL_storeC (t := 34)); rfl; rfl; (exact kS34); (exact HH.out); (first | exact .here | exact .there .here | exact .there (.there .here) | exact .there (.there (.there .here)) | exact .there (.there (.there (.there .here))) | exact .there (.there (.there (.there (.there .here)))) | exact .there (.there (.there (.there (.there (.there .here))))) | exact .there (.there (.there (.there (.there (.there (.there .here))))))); (first | rfl | exact Arr.len _ | (simp; done)); (first | rfl | (intro u_ hu_; simp only [List.mem_cons, List.not_mem_nil, or_false] at hu_; rcases hu_ with rfl | hu_; rfl) | exact byt_cell1 _ | exact cells_one _ | exact wrd_one _ | exact flat_cell1 _); (first | rfl | exact Arr.len _ | (simp; done)); rfl; (intro w_ hq_; (try simp only [List.set_cons_zero, List.set_cons_succ] at hq_); clear HH; have HH := hid hq_; clear hq_))
        | ((with_reducible apply wpL_move); rfl; rfl)
        | ((with_reducible apply wpL_assign); rfl; rfl)
        | ((with_reducible apply wpL_pick); rfl; rfl; rfl)
        | ((with_reducible apply wpL_not); rfl; rfl)
        | ((with_reducible apply wpL_cmp (b := true)); rfl; rfl; rfl; (first | rfl | assumption | (simp only [cmpB, decide_eq_true_eq, decide_eq_false_iff_not, beq_iff_eq, bne_iff_ne, ne_eq, beq_eq_false_iff_ne, bne_eq_false_iff_eq, gt_iff_lt, ge_iff_le]; omega) | (simp; omega)); rfl)
        | ((with_reducible apply wpL_cmp (b := false)); rfl; rfl; rfl; (first | rfl | assumption | (simp only [cmpB, decide_eq_true_eq, decide_eq_false_iff_not, beq_iff_eq, bne_iff_ne, ne_eq, beq_eq_false_iff_ne, bne_eq_false_iff_eq, gt_iff_lt, ge_iff_le]; omega) | (simp; omega)); rfl)
        | ((with_reducible apply wpL_cmp); rfl; rfl; rfl; rfl; rfl)
        | ((with_reducible apply wpL_arith); rfl; rfl; rfl; (exact IntWalk.i64_in _ (by (try simp only [arithI]); omega)); rfl)); (try simp only [arithI, Act.put, Act.eval, List.setIfInBounds_toArray, List.set_cons_succ, List.set_cons_zero, Array.getD_eq_getD_getElem?, List.getElem?_toArray, List.getElem?_cons_succ, List.getElem?_cons_zero, Option.getD_some])))
  go_loopw [9, 10] (LimRel1 w x [(g6_, objC Nd0.cells 34), (g2_, objC x.cells 41)] gb) (fun _ kv _ => 1025 - (intOf kv).toNat)
  case atStart => exact ⟨0, List.replicate 11 Nd0, [], none, 0, by omega, rfl, rfl, rfl, BldOK.nil, HH.out.addNil 34 16⟩
  case round =>
    obtain ⟨k, ns, r, ao1, cap1, hk, rfl, hrk, rfl, hok, hr⟩ := hrel
    clear HH
    have HH := hid hr
    have HOK := hid hok
    have HBL := hid hok.1
    have HRK := hid hrk
    have hrl : r.length = k := by rw [hrk, List.length_replicate]
    clear hr hok hrk
    by_cases hlt : k < 1024
    · obtain ⟨r2, hr2⟩ : ∃ r2, r ++ [x] = r2 := ⟨_, rfl⟩
      obtain ⟨ns2, hns2⟩ : ∃ ns2, addNs ns k x = ns2 := ⟨_, rfl⟩
      have HR2 := hid hr2
      have HNS := hid hns2
      have HST := hid (show r2 = List.replicate (k + 1) x by rw [← hr2, HRK.out, List.replicate_succ'])
      have HOK2 := hid (show BldOK r2 ns2 by
        have := HOK.out.add (x := x) (by omega)
        rw [hrl, hr2, hns2] at this
        exact this)
      clear hr2 hns2
      go_wp2_with (first
        | ((first
            | ((with_reducible apply wpL_skip); rfl; skip)
            | ((with_reducible apply wpL_loadArr (dst := some 52) (t := 41) (v := x) kA41 HH.out); rfl; (exact .there (.there .here)); rfl)
            | ((with_reducible apply wpL_loadArr (dst := some 56) (t := 41) (v := x) kA41 HH.out); rfl; (exact .there (.there .here)); rfl)
            | ((with_reducible apply wpL_buildA (dst := some 53) kE46 x (by decide)); rfl; (exact HH.out); rfl; (intro g_ w_ hq_; clear HH; have HH := hid hq_; clear hq_))
            | ((with_reducible apply wpL_appendA (dst := some 54) (l := r) (l2 := [x]) (r := r2) kE46 HH.out.swap HH.out.sl0 HR2.out); rfl; rfl; (exact (by simp; omega)); rfl; rfl; rfl; (intro ao4 cap4 w_ hq_; clear HH; have HH := hid hq_.dropSnd; clear hq_))
            | (go_at_call 31; (have hcall_ := hid (add_any w _ [] [] [(g6_, objC Nd0.cells 34), (g2_, objC x.cells 41)] _ gb k ns x HBL.out hlt HH.out)); (with_reducible refine hcall_.out.mono ?_); clear hcall_; rw [HNS.out]; rintro e_ w2_ ⟨rfl, hq_⟩; simp only [List.nil_append] at hq_; clear HH; have HH := hid hq_; clear hq_)
            | ((with_reducible apply wpL_nilCheck); rfl; rfl)
            | ((with_reducible apply wpL_loadArr (t := 34) kA34 HH.out); rfl; (first | exact .here | exact .there .here | exact .there (.there .here) | exact .there (.there (.there .here)) | exact .there (.there (.there (.there .here))) | exact .there (.there (.there (.there (.there .here)))) | exact .there (.there (.there (.there (.there (.there .here))))) | exact .there (.there (.there (.there (.there (.there (.there .here))))))); rfl)
            | ((with_reducible apply wpL_loadC (t := 34) kA34 HH.out); rfl; (first | exact .here | exact .there .here | exact .there (.there .here) | exact .there (.there (.there .here)) | exact .there (.there (.there (.there .here))) | exact .there (.there (.there (.there (.there .here)))) | exact .there (.there (.there (.there (.there (.there .here))))) | exact .there (.there (.there (.there (.there (.there (.there .here))))))); (first | rfl | exact Arr.len _ | (simp; done)); rfl)
            | ((with_reducible apply wpL_loadArr (t := 41) kA41 HH.out); rfl; (first | exact .here | exact .there .here | exact .there (.there .here) | exact .there (.there (.there .here)) | exact .there (.there (.there (.there .here))) | exact .there (.there (.there (.there (.there .here)))) | exact .there (.there (.there (.there (.there (.there .here))))) | exact .there (.there (.there (.there (.there (.there (.there .here))))))); rfl)
            | ((with_reducible apply wpL_loadC (t := 41) kA41 HH.out); rfl; (first | exact .here | exact .there .here | exact .there (.there .here) | exact .there (.there (.there .here)) | exact .there (.there (.there (.there .here))) | exact .there (.there (.there (.there (.there .here)))) | exact .there (.there (.there (.there (.there (.there .here))))) | exact .there (.there (.there (.there (.there (.there (.there .here))))))); (first | rfl | exact Arr.len _ | (simp; done)); rfl)
            | ((with_reducible apply wpL_len (t := 46) Try.underlying46); rfl; rfl)
            | ((with_reducible apply wpL_boxArr (dst := some 2)); rfl; (exact HH.out); rfl; (intro g2_ w_ hq_; (try simp only [List.set_cons_zero, List.set_cons_succ] at hq_); clear HH; have HH := hid hq_; clear hq_))
            | ((with_reducible apply wpL_allocC (dst := some 6) kZ34 HH.out); rfl; (intro g6_ w_ hq_; (try simp only [List.set_cons_zero, List.set_cons_succ] at hq_); clear HH; have HH := hid hq_; clear hq_))
            | ((with_reducible apply wpL_allocC (dst := some 11) kZ34 HH.out); rfl; (intro g11_ w_ hq_; (try simp only [List.set_cons_zero, List.set_cons_succ] at hq_); clear HH; have HH := hid hq_; clear hq_))
            | ((with_reducible apply wpL_allocC (dst := some 13) kZ34 HH.out); rfl; (intro g13_ w_ hq_; (try simp only [List.set_cons_zero, List.set_cons_succ] at hq_); clear HH; have HH := hid hq_; clear hq_))
            | ((with_reducible apply wpL_allocC (dst := some 15) kZ34 HH.out); rfl; (intro g15_ w_ hq_; (try simp only [List.set_cons_zero, List.set_cons_succ] at hq_); clear HH; have HH := hid hq_; clear hq_))
            | ((with_reducible apply wpL_allocC (dst := some 18) kZ34 HH.out); rfl; (intro g18_ w_ hq_; (try simp only [List.set_cons_zero, List.set_cons_succ] at hq_); clear HH; have HH := hid hq_; clear hq_))
            | ((with_reducible apply wpL_storeArr (t := 34) kS34 HH.out); rfl; rfl; (first | exact .here | exact .there .here | exact .there (.there .here) | exact .there (.there (.there .here)) | exact .there (.there (.there (.there .here))) | exact .there (.there (.there (.there (.there .here)))) | exact .there (.there (.there (.there (.there (.there .here))))) | exact .there (.there (.there (.there (.there (.there (.there .here))))))); (first | rfl | exact Arr.len _ | (simp; done)); rfl; (intro w_ hq_; (try simp only [List.set_cons_zero, List.set_cons_succ] at hq_); clear HH; have HH := hid hq_; clear hq_))
            | ((with_reducible apply wpL_storeC (t := 34)); rfl; rfl; (exact kS34); (exact HH.out); (first | exact .here | exact .there .here | exact .there (.there .here) | exact .there (.there (.there .here)) | exact .there (.there (.there (.there .here))) | exact .there (.there (.there (.there (.there .here)))) | exact .there (.there (.there (.there (.there (.there .here))))) | exact .there (.there (.there (.there (.there (.there (.there .here))))))); (first | rfl | exact Arr.len _ | (simp; done)); (first | rfl | (intro u_ hu_; simp only [List.mem_cons, List.not_mem_nil, or_false] at hu_; rcases hu_ with rfl | hu_; rfl) | exact byt_cell1 _ | exact cells_one _ | exact wrd_one _ | exact flat_cell1 _); (first | rfl | exact Arr.len _ | (simp; done)); rfl; (intro w_ hq_; (try simp only [List.set_cons_zero, List.set_cons_succ] at hq_); clear HH; have HH := hid hq_; clear hq_))
            | ((with_reducible apply wpL_move); rfl; rfl)
            | ((with_reducible apply wpL_assign); rfl; rfl)
            | ((with_reducible apply wpL_pick); rfl; rfl; rfl)
            | ((with_reducible apply wpL_not); rfl; rfl)
            | ((with_reducible apply wpL_cmp (b := true)); rfl; rfl; rfl; (first | rfl | assumption | (simp only [cmpB, decide_eq_true_eq, decide_eq_false_iff_not, beq_iff_eq, bne_iff_ne, ne_eq, beq_eq_false_iff_ne, bne_eq_false_iff_eq, gt_iff_lt, ge_iff_le]; omega) | (simp; omega)); rfl)
            | ((with_reducible apply wpL_cmp (b := false)); rfl; rfl; rfl; (first | rfl | assumption | (simp only [cmpB, decide_eq_true_eq, decide_eq_false_iff_not, beq_iff_eq, bne_iff_ne, ne_eq, beq_eq_false_iff_ne, bne_eq_false_iff_eq, gt_iff_lt, ge_iff_le]; omega) | (simp; omega)); rfl)
            | ((with_reducible apply wpL_cmp); rfl; rfl; rfl; rfl; rfl)
            | ((with_reducible apply wpL_arith); rfl; rfl; rfl; (exact IntWalk.i64_in _ (by (try simp only [arithI]); omega)); rfl)); (try simp only [arithI, Act.put, Act.eval, List.setIfInBounds_toArray, List.set_cons_succ, List.set_cons_zero, Array.getD_eq_getD_getElem?, List.getElem?_toArray, List.getElem?_cons_succ, List.getElem?_cons_zero, Option.getD_some])))
      go_roundw
      case rel => exact ⟨k + 1, ns2, r2, _, _, by omega, by go_num, HST.out, rfl, HOK2.out, HH.out⟩
      case measure => simp [intOf]; omega
    · obtain rfl : k = 1024 := by omega
      have hroot := root_rep x r HRK.out
      obtain ⟨d, hd⟩ : ∃ d, upN x 10 = d := ⟨_, rfl⟩
      rw [hd] at hroot
      have HD := hid hd
      have HCK := hid hroot.1
      have HRV := hid hroot.2
      have hpb := pend_eq HOK.out
      rw [hrl] at hpb
      have hpr := (pendL_root (l := r) (by omega)).1 hroot.1
      rw [← hpb, hroot.2] at hpr
      have HBC := hid hpr.1
      have HBV := hid hpr.2
      have HRL := hid hrl
      clear hroot hpb hpr hd hrl
      go_wp2_with (first
        | ((first
            | ((with_reducible apply wpL_skip); rfl; skip)
            | ((with_reducible apply wpL_nilCheck); rfl; rfl)
            | ((with_reducible apply wpL_loadArr (t := 34) kA34 HH.out); rfl; (first | exact .here | exact .there .here | exact .there (.there .here) | exact .there (.there (.there .here)) | exact .there (.there (.there (.there .here))) | exact .there (.there (.there (.there (.there .here)))) | exact .there (.there (.there (.there (.there (.there .here))))) | exact .there (.there (.there (.there (.there (.there (.there .here))))))); rfl)
            | ((with_reducible apply wpL_loadC (t := 34) kA34 HH.out); rfl; (first | exact .here | exact .there .here | exact .there (.there .here) | exact .there (.there (.there .here)) | exact .there (.there (.there (.there .here))) | exact .there (.there (.there (.there (.there .here)))) | exact .there (.there (.there (.there (.there (.there .here))))) | exact .there (.there (.there (.there (.there (.there (.there .here))))))); (first | rfl | exact Arr.len _ | (simp; done)); rfl)
            | ((with_reducible apply wpL_loadArr (t := 41) kA41 HH.out); rfl; (first | exact .here | exact .there .here | exact .there (.there .here) | exact .there (.there (.there .here)) | exact .there (.there (.there (.there .here))) | exact .there (.there (.there (.there (.there .here)))) | exact .there (.there (.there (.there (.there (.there .here))))) | exact .there (.there (.there (.there (.there (.there (.there .here))))))); rfl)
            | ((with_reducible apply wpL_loadC (t := 41) kA41 HH.out); rfl; (first | exact .here | exact .there .here | exact .there (.there .here) | exact .there (.there (.there .here)) | exact .there (.there (.there (.there .here))) | exact .there (.there (.there (.there (.there .here)))) | exact .there (.there (.there (.there (.there (.there .here))))) | exact .there (.there (.there (.there (.there (.there (.there .here))))))); (first | rfl | exact Arr.len _ | (simp; done)); rfl)
            | ((with_reducible apply wpL_len (t := 46) Try.underlying46); rfl; rfl)
            | ((with_reducible apply wpL_boxArr (dst := some 2)); rfl; (exact HH.out); rfl; (intro g2_ w_ hq_; (try simp only [List.set_cons_zero, List.set_cons_succ] at hq_); clear HH; have HH := hid hq_; clear hq_))
            | ((with_reducible apply wpL_allocC (dst := some 6) kZ34 HH.out); rfl; (intro g6_ w_ hq_; (try simp only [List.set_cons_zero, List.set_cons_succ] at hq_); clear HH; have HH := hid hq_; clear hq_))
            | ((with_reducible apply wpL_allocC (dst := some 11) kZ34 HH.out); rfl; (intro g11_ w_ hq_; (try simp only [List.set_cons_zero, List.set_cons_succ] at hq_); clear HH; have HH := hid hq_; clear hq_))
            | ((with_reducible apply wpL_allocC (dst := some 13) kZ34 HH.out); rfl; (intro g13_ w_ hq_; (try simp only [List.set_cons_zero, List.set_cons_succ] at hq_); clear HH; have HH := hid hq_; clear hq_))
            | ((with_reducible apply wpL_allocC (dst := some 15) kZ34 HH.out); rfl; (intro g15_ w_ hq_; (try simp only [List.set_cons_zero, List.set_cons_succ] at hq_); clear HH; have HH := hid hq_; clear hq_))
            | ((with_reducible apply wpL_allocC (dst := some 18) kZ34 HH.out); rfl; (intro g18_ w_ hq_; (try simp only [List.set_cons_zero, List.set_cons_succ] at hq_); clear HH; have HH := hid hq_; clear hq_))
            | ((with_reducible apply wpL_storeArr (t := 34) kS34 HH.out); rfl; rfl; (first | exact .here | exact .there .here | exact .there (.there .here) | exact .there (.there (.there .here)) | exact .there (.there (.there (.there .here))) | exact .there (.there (.there (.there (.there .here)))) | exact .there (.there (.there (.there (.there (.there .here))))) | exact .there (.there (.there (.there (.there (.there (.there .here))))))); (first | rfl | exact Arr.len _ | (simp; done)); rfl; (intro w_ hq_; (try simp only [List.set_cons_zero, List.set_cons_succ] at hq_); clear HH; have HH := hid hq_; clear hq_))
            | ((with_reducible apply wpL_storeC (t := 34)); rfl; rfl; (exact kS34); (exact HH.out); (first | exact .here | exact .there .here | exact .there (.there .here) | exact .there (.there (.there .here)) | exact .there (.there (.there (.there .here))) | exact .there (.there (.there (.there (.there .here)))) | exact .there (.there (.there (.there (.there (.there .here))))) | exact .there (.there (.there (.there (.there (.there (.there .here))))))); (first | rfl | exact Arr.len _ | (simp; done)); (first | rfl | (intro u_ hu_; simp only [List.mem_cons, List.not_mem_nil, or_false] at hu_; rcases hu_ with rfl | hu_; rfl) | exact byt_cell1 _ | exact cells_one _ | exact wrd_one _ | exact flat_cell1 _); (first | rfl | exact Arr.len _ | (simp; done)); rfl; (intro w_ hq_; (try simp only [List.set_cons_zero, List.set_cons_succ] at hq_); clear HH; have HH := hid hq_; clear hq_))
            | ((with_reducible apply wpL_move); rfl; rfl)
            | ((with_reducible apply wpL_assign); rfl; rfl)
            | ((with_reducible apply wpL_pick); rfl; rfl; rfl)
            | ((with_reducible apply wpL_not); rfl; rfl)
            | ((with_reducible apply wpL_cmp (b := true)); rfl; rfl; rfl; (first | rfl | assumption | (simp only [cmpB, decide_eq_true_eq, decide_eq_false_iff_not, beq_iff_eq, bne_iff_ne, ne_eq, beq_eq_false_iff_ne, bne_eq_false_iff_eq, gt_iff_lt, ge_iff_le]; omega) | (simp; omega)); rfl)
            | ((with_reducible apply wpL_cmp (b := false)); rfl; rfl; rfl; (first | rfl | assumption | (simp only [cmpB, decide_eq_true_eq, decide_eq_false_iff_not, beq_iff_eq, bne_iff_ne, ne_eq, beq_eq_false_iff_ne, bne_eq_false_iff_eq, gt_iff_lt, ge_iff_le]; omega) | (simp; omega)); rfl)
            | ((with_reducible apply wpL_cmp); rfl; rfl; rfl; rfl; rfl)
            | ((with_reducible apply wpL_arith); rfl; rfl; rfl; (exact IntWalk.i64_in _ (by (try simp only [arithI]); omega)); rfl)); (try simp only [arithI, Act.put, Act.eval, List.setIfInBounds_toArray, List.set_cons_succ, List.set_cons_zero, Array.getD_eq_getD_getElem?, List.getElem?_toArray, List.getElem?_cons_succ, List.getElem?_cons_zero, Option.getD_some])))
      go_loopw [12] (LimRel2 w x [(gb, bldO ns 1024), (g6_, objC Nd0.cells 34), (g2_, objC x.cells 41)] [rowA 34 ao1 cap1 r] g11_) (fun kv _ => 11 - (intOf kv).toNat)
      case atStart => exact ⟨0, by omega, rfl, HH.out⟩
      case round =>
        obtain ⟨j, hj, rfl, hr⟩ := hrel
        clear HH
        obtain ⟨c, hc⟩ : ∃ c, upN x j = c := ⟨_, rfl⟩
        rw [hc] at hr
        have HH := hid hr
        have HCJ := hid hc
        clear hr hc
        by_cases hj10 : j < 10
        · obtain ⟨c2, hc2⟩ : ∃ c2, joinN ((j : Int) + 1) c c = c2 := ⟨_, rfl⟩
          have HC2 := hid hc2
          have HST := hid (show upN x (j + 1) = c2 by rw [upN, HCJ.out]; exact hc2)
          clear hc2
          go_wp2_with (first
            | ((first
                | ((with_reducible apply wpL_skip); rfl; skip)
                | (go_at_call 37; (with_reducible refine (join_any _ ((j : Int) + 1) c c).mono ?_); rw [HC2.out]; rintro e_ w2_ ⟨rfl, hb_⟩; (have hq_ := HH.out.grow hb_); clear HH; have HH := hid hq_; clear hq_ hb_)
                | ((with_reducible apply wpL_nilCheck); rfl; rfl)
                | ((with_reducible apply wpL_loadArr (t := 34) kA34 HH.out); rfl; (first | exact .here | exact .there .here | exact .there (.there .here) | exact .there (.there (.there .here)) | exact .there (.there (.there (.there .here))) | exact .there (.there (.there (.there (.there .here)))) | exact .there (.there (.there (.there (.there (.there .here))))) | exact .there (.there (.there (.there (.there (.there (.there .here))))))); rfl)
                | ((with_reducible apply wpL_loadC (t := 34) kA34 HH.out); rfl; (first | exact .here | exact .there .here | exact .there (.there .here) | exact .there (.there (.there .here)) | exact .there (.there (.there (.there .here))) | exact .there (.there (.there (.there (.there .here)))) | exact .there (.there (.there (.there (.there (.there .here))))) | exact .there (.there (.there (.there (.there (.there (.there .here))))))); (first | rfl | exact Arr.len _ | (simp; done)); rfl)
                | ((with_reducible apply wpL_loadArr (t := 41) kA41 HH.out); rfl; (first | exact .here | exact .there .here | exact .there (.there .here) | exact .there (.there (.there .here)) | exact .there (.there (.there (.there .here))) | exact .there (.there (.there (.there (.there .here)))) | exact .there (.there (.there (.there (.there (.there .here))))) | exact .there (.there (.there (.there (.there (.there (.there .here))))))); rfl)
                | ((with_reducible apply wpL_loadC (t := 41) kA41 HH.out); rfl; (first | exact .here | exact .there .here | exact .there (.there .here) | exact .there (.there (.there .here)) | exact .there (.there (.there (.there .here))) | exact .there (.there (.there (.there (.there .here)))) | exact .there (.there (.there (.there (.there (.there .here))))) | exact .there (.there (.there (.there (.there (.there (.there .here))))))); (first | rfl | exact Arr.len _ | (simp; done)); rfl)
                | ((with_reducible apply wpL_len (t := 46) Try.underlying46); rfl; rfl)
                | ((with_reducible apply wpL_boxArr (dst := some 2)); rfl; (exact HH.out); rfl; (intro g2_ w_ hq_; (try simp only [List.set_cons_zero, List.set_cons_succ] at hq_); clear HH; have HH := hid hq_; clear hq_))
                | ((with_reducible apply wpL_allocC (dst := some 6) kZ34 HH.out); rfl; (intro g6_ w_ hq_; (try simp only [List.set_cons_zero, List.set_cons_succ] at hq_); clear HH; have HH := hid hq_; clear hq_))
                | ((with_reducible apply wpL_allocC (dst := some 11) kZ34 HH.out); rfl; (intro g11_ w_ hq_; (try simp only [List.set_cons_zero, List.set_cons_succ] at hq_); clear HH; have HH := hid hq_; clear hq_))
                | ((with_reducible apply wpL_allocC (dst := some 13) kZ34 HH.out); rfl; (intro g13_ w_ hq_; (try simp only [List.set_cons_zero, List.set_cons_succ] at hq_); clear HH; have HH := hid hq_; clear hq_))
                | ((with_reducible apply wpL_allocC (dst := some 15) kZ34 HH.out); rfl; (intro g15_ w_ hq_; (try simp only [List.set_cons_zero, List.set_cons_succ] at hq_); clear HH; have HH := hid hq_; clear hq_))
                | ((with_reducible apply wpL_allocC (dst := some 18) kZ34 HH.out); rfl; (intro g18_ w_ hq_; (try simp only [List.set_cons_zero, List.set_cons_succ] at hq_); clear HH; have HH := hid hq_; clear hq_))
                | ((with_reducible apply wpL_storeArr (t := 34) kS34 HH.out); rfl; rfl; (first | exact .here | exact .there .here | exact .there (.there .here) | exact .there (.there (.there .here)) | exact .there (.there (.there (.there .here))) | exact .there (.there (.there (.there (.there .here)))) | exact .there (.there (.there (.there (.there (.there .here))))) | exact .there (.there (.there (.there (.there (.there (.there .here))))))); (first | rfl | exact Arr.len _ | (simp; done)); rfl; (intro w_ hq_; (try simp only [List.set_cons_zero, List.set_cons_succ] at hq_); clear HH; have HH := hid hq_; clear hq_))
                | ((with_reducible apply wpL_storeC (t := 34)); rfl; rfl; (exact kS34); (exact HH.out); (first | exact .here | exact .there .here | exact .there (.there .here) | exact .there (.there (.there .here)) | exact .there (.there (.there (.there .here))) | exact .there (.there (.there (.there (.there .here)))) | exact .there (.there (.there (.there (.there (.there .here))))) | exact .there (.there (.there (.there (.there (.there (.there .here))))))); (first | rfl | exact Arr.len _ | (simp; done)); (first | rfl | (intro u_ hu_; simp only [List.mem_cons, List.not_mem_nil, or_false] at hu_; rcases hu_ with rfl | hu_; rfl) | exact byt_cell1 _ | exact cells_one _ | exact wrd_one _ | exact flat_cell1 _); (first | rfl | exact Arr.len _ | (simp; done)); rfl; (intro w_ hq_; (try simp only [List.set_cons_zero, List.set_cons_succ] at hq_); clear HH; have HH := hid hq_; clear hq_))
                | ((with_reducible apply wpL_move); rfl; rfl)
                | ((with_reducible apply wpL_assign); rfl; rfl)
                | ((with_reducible apply wpL_pick); rfl; rfl; rfl)
                | ((with_reducible apply wpL_not); rfl; rfl)
                | ((with_reducible apply wpL_cmp (b := true)); rfl; rfl; rfl; (first | rfl | assumption | (simp only [cmpB, decide_eq_true_eq, decide_eq_false_iff_not, beq_iff_eq, bne_iff_ne, ne_eq, beq_eq_false_iff_ne, bne_eq_false_iff_eq, gt_iff_lt, ge_iff_le]; omega) | (simp; omega)); rfl)
                | ((with_reducible apply wpL_cmp (b := false)); rfl; rfl; rfl; (first | rfl | assumption | (simp only [cmpB, decide_eq_true_eq, decide_eq_false_iff_not, beq_iff_eq, bne_iff_ne, ne_eq, beq_eq_false_iff_ne, bne_eq_false_iff_eq, gt_iff_lt, ge_iff_le]; omega) | (simp; omega)); rfl)
                | ((with_reducible apply wpL_cmp); rfl; rfl; rfl; rfl; rfl)
                | ((with_reducible apply wpL_arith); rfl; rfl; rfl; (exact IntWalk.i64_in _ (by (try simp only [arithI]); omega)); rfl)); (try simp only [arithI, Act.put, Act.eval, List.setIfInBounds_toArray, List.set_cons_succ, List.set_cons_zero, Array.getD_eq_getD_getElem?, List.getElem?_toArray, List.getElem?_cons_succ, List.getElem?_cons_zero, Option.getD_some])))
          go_roundw
          case rel => exact ⟨j + 1, by omega, by go_num, by rw [HST.out]; exact HH.out⟩
          case measure => simp [intOf]; omega
        · obtain rfl : j = 10 := by omega
          obtain rfl : c = d := by rw [← HCJ.out, HD.out]
          obtain ⟨q, hq⟩ : ∃ q, m.toNat % 3 = q := ⟨_, rfl⟩
          have hq3 : q < 3 := by rw [← hq]; exact Nat.mod_lt _ (by decide)
          have HQ3 := hid hq
          have HQW := hid (show IntKind.i64.wrap ((q : Nat) : Int) = (q : Int) from IntWalk.i64_in _ (by omega))
          clear hq
          go_wp2_with (first
            | ((first
                | ((with_reducible apply wpL_skip); rfl; skip)
                | (go_at_call 38; (have hcall_ := hid (root_any _ _ r HH.out.sl0 (by have := HRL.out; omega))); (with_reducible refine hcall_.out.mono ?_); clear hcall_; rw [HRV.out, HCK.out]; rintro e_ w2_ ⟨rfl, hb_⟩; (have hq_ := HH.out.grow hb_); clear HH; have HH := hid hq_; clear hq_ hb_)
                | (go_at_call 25; (have hcall_ := hid (rootB_any w _ [] [(g13_, objC c.cells 34), (g11_, objC c.cells 34)] [(g6_, objC Nd0.cells 34), (g2_, objC x.cells 41)] _ gb 1024 ns HBL.out (by omega) HH.out)); (with_reducible refine hcall_.out.mono ?_); clear hcall_; rw [HBV.out, HBC.out]; rintro e_ w2_ ⟨rfl, hb_⟩; (have hq_ := HH.out.grow hb_); clear HH; have HH := hid hq_; clear hq_ hb_)
                | ((with_reducible apply wpL_nilCheck); rfl; rfl)
                | ((with_reducible apply wpL_loadArr (t := 34) kA34 HH.out); rfl; (first | exact .here | exact .there .here | exact .there (.there .here) | exact .there (.there (.there .here)) | exact .there (.there (.there (.there .here))) | exact .there (.there (.there (.there (.there .here)))) | exact .there (.there (.there (.there (.there (.there .here))))) | exact .there (.there (.there (.there (.there (.there (.there .here))))))); rfl)
                | ((with_reducible apply wpL_loadC (t := 34) kA34 HH.out); rfl; (first | exact .here | exact .there .here | exact .there (.there .here) | exact .there (.there (.there .here)) | exact .there (.there (.there (.there .here))) | exact .there (.there (.there (.there (.there .here)))) | exact .there (.there (.there (.there (.there (.there .here))))) | exact .there (.there (.there (.there (.there (.there (.there .here))))))); (first | rfl | exact Arr.len _ | (simp; done)); rfl)
                | ((with_reducible apply wpL_loadArr (t := 41) kA41 HH.out); rfl; (first | exact .here | exact .there .here | exact .there (.there .here) | exact .there (.there (.there .here)) | exact .there (.there (.there (.there .here))) | exact .there (.there (.there (.there (.there .here)))) | exact .there (.there (.there (.there (.there (.there .here))))) | exact .there (.there (.there (.there (.there (.there (.there .here))))))); rfl)
                | ((with_reducible apply wpL_loadC (t := 41) kA41 HH.out); rfl; (first | exact .here | exact .there .here | exact .there (.there .here) | exact .there (.there (.there .here)) | exact .there (.there (.there (.there .here))) | exact .there (.there (.there (.there (.there .here)))) | exact .there (.there (.there (.there (.there (.there .here))))) | exact .there (.there (.there (.there (.there (.there (.there .here))))))); (first | rfl | exact Arr.len _ | (simp; done)); rfl)
                | ((with_reducible apply wpL_len (t := 46) Try.underlying46); rfl; rfl)
                | ((with_reducible apply wpL_boxArr (dst := some 2)); rfl; (exact HH.out); rfl; (intro g2_ w_ hq_; (try simp only [List.set_cons_zero, List.set_cons_succ] at hq_); clear HH; have HH := hid hq_; clear hq_))
                | ((with_reducible apply wpL_allocC (dst := some 6) kZ34 HH.out); rfl; (intro g6_ w_ hq_; (try simp only [List.set_cons_zero, List.set_cons_succ] at hq_); clear HH; have HH := hid hq_; clear hq_))
                | ((with_reducible apply wpL_allocC (dst := some 11) kZ34 HH.out); rfl; (intro g11_ w_ hq_; (try simp only [List.set_cons_zero, List.set_cons_succ] at hq_); clear HH; have HH := hid hq_; clear hq_))
                | ((with_reducible apply wpL_allocC (dst := some 13) kZ34 HH.out); rfl; (intro g13_ w_ hq_; (try simp only [List.set_cons_zero, List.set_cons_succ] at hq_); clear HH; have HH := hid hq_; clear hq_))
                | ((with_reducible apply wpL_allocC (dst := some 15) kZ34 HH.out); rfl; (intro g15_ w_ hq_; (try simp only [List.set_cons_zero, List.set_cons_succ] at hq_); clear HH; have HH := hid hq_; clear hq_))
                | ((with_reducible apply wpL_allocC (dst := some 18) kZ34 HH.out); rfl; (intro g18_ w_ hq_; (try simp only [List.set_cons_zero, List.set_cons_succ] at hq_); clear HH; have HH := hid hq_; clear hq_))
                | ((with_reducible apply wpL_storeArr (t := 34) kS34 HH.out); rfl; rfl; (first | exact .here | exact .there .here | exact .there (.there .here) | exact .there (.there (.there .here)) | exact .there (.there (.there (.there .here))) | exact .there (.there (.there (.there (.there .here)))) | exact .there (.there (.there (.there (.there (.there .here))))) | exact .there (.there (.there (.there (.there (.there (.there .here))))))); (first | rfl | exact Arr.len _ | (simp; done)); rfl; (intro w_ hq_; (try simp only [List.set_cons_zero, List.set_cons_succ] at hq_); clear HH; have HH := hid hq_; clear hq_))
                | ((with_reducible apply wpL_storeC (t := 34)); rfl; rfl; (exact kS34); (exact HH.out); (first | exact .here | exact .there .here | exact .there (.there .here) | exact .there (.there (.there .here)) | exact .there (.there (.there (.there .here))) | exact .there (.there (.there (.there (.there .here)))) | exact .there (.there (.there (.there (.there (.there .here))))) | exact .there (.there (.there (.there (.there (.there (.there .here))))))); (first | rfl | exact Arr.len _ | (simp; done)); (first | rfl | (intro u_ hu_; simp only [List.mem_cons, List.not_mem_nil, or_false] at hu_; rcases hu_ with rfl | hu_; rfl) | exact byt_cell1 _ | exact cells_one _ | exact wrd_one _ | exact flat_cell1 _); (first | rfl | exact Arr.len _ | (simp; done)); rfl; (intro w_ hq_; (try simp only [List.set_cons_zero, List.set_cons_succ] at hq_); clear HH; have HH := hid hq_; clear hq_))
                | ((with_reducible apply wpL_move); rfl; rfl)
                | ((with_reducible apply wpL_assign); rfl; rfl)
                | ((with_reducible apply wpL_pick); rfl; rfl; rfl)
                | ((with_reducible apply wpL_not); rfl; rfl)
                | ((with_reducible apply wpL_cmp (b := true)); rfl; rfl; rfl; (first | rfl | assumption | (simp only [cmpB, decide_eq_true_eq, decide_eq_false_iff_not, beq_iff_eq, bne_iff_ne, ne_eq, beq_eq_false_iff_ne, bne_eq_false_iff_eq, gt_iff_lt, ge_iff_le]; omega) | (simp; omega)); rfl)
                | ((with_reducible apply wpL_cmp (b := false)); rfl; rfl; rfl; (first | rfl | assumption | (simp only [cmpB, decide_eq_true_eq, decide_eq_false_iff_not, beq_iff_eq, bne_iff_ne, ne_eq, beq_eq_false_iff_ne, bne_eq_false_iff_eq, gt_iff_lt, ge_iff_le]; omega) | (simp; omega)); rfl)
                | ((with_reducible apply wpL_cmp); rfl; rfl; rfl; rfl; rfl)
                | ((with_reducible apply wpL_arith); rfl; rfl; rfl; (exact IntWalk.i64_in _ (by (try simp only [arithI]); omega)); rfl)); (try simp only [arithI, Act.put, Act.eval, List.setIfInBounds_toArray, List.set_cons_succ, List.set_cons_zero, Array.getD_eq_getD_getElem?, List.getElem?_toArray, List.getElem?_cons_succ, List.getElem?_cons_zero, Option.getD_some])))
          go_loopw [9, 17] (LimRel3 w x [(g15_, objC c.cells 34), (g13_, objC c.cells 34), (g11_, objC c.cells 34), (gb, bldO ns 1024), (g6_, objC Nd0.cells 34), (g2_, objC x.cells 41)] q) (fun _ kv _ => q + 2 - (intOf kv).toNat)
          case atStart => exact ⟨0, r, _, _, by omega, rfl, HRK.out, rfl, HH.out⟩
          case round =>
            obtain ⟨i, r1, ao3, cap3, hi, rfl, hr1, rfl, hr⟩ := hrel
            clear HH
            have HH := hid hr
            have HR1 := hid hr1
            have HR1L := hid (show r1.length = 1024 + i by rw [hr1, List.length_replicate])
            clear hr hr1
            by_cases hiq : i ≤ q
            · obtain ⟨r2, hr2⟩ : ∃ r2, r1 ++ [x] = r2 := ⟨_, rfl⟩
              have HR2 := hid hr2
              have HST := hid (show r2 = List.replicate (1024 + (i + 1)) x by rw [← hr2, HR1.out, ← Nat.add_assoc, List.replicate_succ'])
              clear hr2
              go_wp2_with (first
                | ((first
                    | ((with_reducible apply wpL_skip); rfl; skip)
                    | ((with_reducible apply wpL_remU (b := m) (n := 3)); rfl; rfl; rfl; (exact (by omega)); (exact HQ3.out); rfl)
                    | ((with_reducible apply wpL_toInt Try.underlying5 Try.underlying3); rfl; (exact HQW.out); rfl)
                    | ((with_reducible apply wpL_buildA (dst := some 87) kE46 x (by decide)); rfl; (exact HH.out); rfl; (intro g_ w_ hq_; clear HH; have HH := hid hq_; clear hq_))
                    | ((with_reducible apply wpL_appendA (dst := some 88) (l := r1) (l2 := [x]) (r := r2) kE46 HH.out.swap HH.out.sl0 HR2.out); rfl; rfl; (exact (by have := HR1L.out; simp; omega)); rfl; rfl; rfl; (intro ao4 cap4 w_ hq_; clear HH; have HH := hid hq_.dropSnd; clear hq_))
                    | ((with_reducible apply wpL_nilCheck); rfl; rfl)
                    | ((with_reducible apply wpL_loadArr (t := 34) kA34 HH.out); rfl; (first | exact .here | exact .there .here | exact .there (.there .here) | exact .there (.there (.there .here)) | exact .there (.there (.there (.there .here))) | exact .there (.there (.there (.there (.there .here)))) | exact .there (.there (.there (.there (.there (.there .here))))) | exact .there (.there (.there (.there (.there (.there (.there .here))))))); rfl)
                    | ((with_reducible apply wpL_loadC (t := 34) kA34 HH.out); rfl; (first | exact .here | exact .there .here | exact .there (.there .here) | exact .there (.there (.there .here)) | exact .there (.there (.there (.there .here))) | exact .there (.there (.there (.there (.there .here)))) | exact .there (.there (.there (.there (.there (.there .here))))) | exact .there (.there (.there (.there (.there (.there (.there .here))))))); (first | rfl | exact Arr.len _ | (simp; done)); rfl)
                    | ((with_reducible apply wpL_loadArr (t := 41) kA41 HH.out); rfl; (first | exact .here | exact .there .here | exact .there (.there .here) | exact .there (.there (.there .here)) | exact .there (.there (.there (.there .here))) | exact .there (.there (.there (.there (.there .here)))) | exact .there (.there (.there (.there (.there (.there .here))))) | exact .there (.there (.there (.there (.there (.there (.there .here))))))); rfl)
                    | ((with_reducible apply wpL_loadC (t := 41) kA41 HH.out); rfl; (first | exact .here | exact .there .here | exact .there (.there .here) | exact .there (.there (.there .here)) | exact .there (.there (.there (.there .here))) | exact .there (.there (.there (.there (.there .here)))) | exact .there (.there (.there (.there (.there (.there .here))))) | exact .there (.there (.there (.there (.there (.there (.there .here))))))); (first | rfl | exact Arr.len _ | (simp; done)); rfl)
                    | ((with_reducible apply wpL_len (t := 46) Try.underlying46); rfl; rfl)
                    | ((with_reducible apply wpL_boxArr (dst := some 2)); rfl; (exact HH.out); rfl; (intro g2_ w_ hq_; (try simp only [List.set_cons_zero, List.set_cons_succ] at hq_); clear HH; have HH := hid hq_; clear hq_))
                    | ((with_reducible apply wpL_allocC (dst := some 6) kZ34 HH.out); rfl; (intro g6_ w_ hq_; (try simp only [List.set_cons_zero, List.set_cons_succ] at hq_); clear HH; have HH := hid hq_; clear hq_))
                    | ((with_reducible apply wpL_allocC (dst := some 11) kZ34 HH.out); rfl; (intro g11_ w_ hq_; (try simp only [List.set_cons_zero, List.set_cons_succ] at hq_); clear HH; have HH := hid hq_; clear hq_))
                    | ((with_reducible apply wpL_allocC (dst := some 13) kZ34 HH.out); rfl; (intro g13_ w_ hq_; (try simp only [List.set_cons_zero, List.set_cons_succ] at hq_); clear HH; have HH := hid hq_; clear hq_))
                    | ((with_reducible apply wpL_allocC (dst := some 15) kZ34 HH.out); rfl; (intro g15_ w_ hq_; (try simp only [List.set_cons_zero, List.set_cons_succ] at hq_); clear HH; have HH := hid hq_; clear hq_))
                    | ((with_reducible apply wpL_allocC (dst := some 18) kZ34 HH.out); rfl; (intro g18_ w_ hq_; (try simp only [List.set_cons_zero, List.set_cons_succ] at hq_); clear HH; have HH := hid hq_; clear hq_))
                    | ((with_reducible apply wpL_storeArr (t := 34) kS34 HH.out); rfl; rfl; (first | exact .here | exact .there .here | exact .there (.there .here) | exact .there (.there (.there .here)) | exact .there (.there (.there (.there .here))) | exact .there (.there (.there (.there (.there .here)))) | exact .there (.there (.there (.there (.there (.there .here))))) | exact .there (.there (.there (.there (.there (.there (.there .here))))))); (first | rfl | exact Arr.len _ | (simp; done)); rfl; (intro w_ hq_; (try simp only [List.set_cons_zero, List.set_cons_succ] at hq_); clear HH; have HH := hid hq_; clear hq_))
                    | ((with_reducible apply wpL_storeC (t := 34)); rfl; rfl; (exact kS34); (exact HH.out); (first | exact .here | exact .there .here | exact .there (.there .here) | exact .there (.there (.there .here)) | exact .there (.there (.there (.there .here))) | exact .there (.there (.there (.there (.there .here)))) | exact .there (.there (.there (.there (.there (.there .here))))) | exact .there (.there (.there (.there (.there (.there (.there .here))))))); (first | rfl | exact Arr.len _ | (simp; done)); (first | rfl | (intro u_ hu_; simp only [List.mem_cons, List.not_mem_nil, or_false] at hu_; rcases hu_ with rfl | hu_; rfl) | exact byt_cell1 _ | exact cells_one _ | exact wrd_one _ | exact flat_cell1 _); (first | rfl | exact Arr.len _ | (simp; done)); rfl; (intro w_ hq_; (try simp only [List.set_cons_zero, List.set_cons_succ] at hq_); clear HH; have HH := hid hq_; clear hq_))
                    | ((with_reducible apply wpL_move); rfl; rfl)
                    | ((with_reducible apply wpL_assign); rfl; rfl)
                    | ((with_reducible apply wpL_pick); rfl; rfl; rfl)
                    | ((with_reducible apply wpL_not); rfl; rfl)
                    | ((with_reducible apply wpL_cmp (b := true)); rfl; rfl; rfl; (first | rfl | assumption | (simp only [cmpB, decide_eq_true_eq, decide_eq_false_iff_not, beq_iff_eq, bne_iff_ne, ne_eq, beq_eq_false_iff_ne, bne_eq_false_iff_eq, gt_iff_lt, ge_iff_le]; omega) | (simp; omega)); rfl)
                    | ((with_reducible apply wpL_cmp (b := false)); rfl; rfl; rfl; (first | rfl | assumption | (simp only [cmpB, decide_eq_true_eq, decide_eq_false_iff_not, beq_iff_eq, bne_iff_ne, ne_eq, beq_eq_false_iff_ne, bne_eq_false_iff_eq, gt_iff_lt, ge_iff_le]; omega) | (simp; omega)); rfl)
                    | ((with_reducible apply wpL_cmp); rfl; rfl; rfl; rfl; rfl)
                    | ((with_reducible apply wpL_arith); rfl; rfl; rfl; (exact IntWalk.i64_in _ (by (try simp only [arithI]); omega)); rfl)); (try simp only [arithI, Act.put, Act.eval, List.setIfInBounds_toArray, List.set_cons_succ, List.set_cons_zero, Array.getD_eq_getD_getElem?, List.getElem?_toArray, List.getElem?_cons_succ, List.getElem?_cons_zero, Option.getD_some])))
              go_roundw
              case rel => exact ⟨i + 1, r2, _, _, by omega, by go_num, HST.out, rfl, HH.out⟩
              case measure => simp [intOf]; omega
            · have hck := check_over (n := r1.length) (by have := HR1L.out; omega)
              have HCK2 := hid hck
              have HRV2 := hid (show rootV r1 = Nd0 by unfold rootV; rw [if_neg (by rw [hck]; decide)])
              clear hck
              go_wp2_with (first
                | ((first
                    | ((with_reducible apply wpL_skip); rfl; skip)
                    | ((with_reducible apply wpL_remU (b := m) (n := 3)); rfl; rfl; rfl; (exact (by omega)); (exact HQ3.out); rfl)
                    | ((with_reducible apply wpL_toInt Try.underlying5 Try.underlying3); rfl; (exact HQW.out); rfl)
                    | (go_at_call 38; (have hcall_ := hid (root_any _ _ r1 HH.out.sl0 (by have := HR1L.out; omega))); (with_reducible refine hcall_.out.mono ?_); clear hcall_; rw [HRV2.out, HCK2.out]; rintro e_ w2_ ⟨rfl, hb_⟩; (have hq_ := HH.out.grow hb_); clear HH; have HH := hid hq_; clear hq_ hb_)
                    | ((with_reducible apply wpL_eqlA (b := true) (p := c) (q := c) kR34); rfl; rfl; (exact arrRefl _); rfl)
                    | (go_at_call 31; (have hcall_ := hid (addFull_any w _ [] [(g18_, objC Nd0.cells 34), (g15_, objC c.cells 34), (g13_, objC c.cells 34), (g11_, objC c.cells 34)] [(g6_, objC Nd0.cells 34), (g2_, objC x.cells 41)] _ gb ns x HBL.out HH.out)); (with_reducible refine hcall_.out.mono ?_); clear hcall_; rintro e_ w2_ ⟨rfl, hb_⟩; (have hq_ := HH.out.grow hb_); clear HH; have HH := hid hq_; clear hq_ hb_)
                    | (go_at_call 27; (have hcall_ := hid (lenB_any w _ [] [(g18_, objC Nd0.cells 34), (g15_, objC c.cells 34), (g13_, objC c.cells 34), (g11_, objC c.cells 34)] [(g6_, objC Nd0.cells 34), (g2_, objC x.cells 41)] _ gb 1024 ns HBL.out HH.out)); (with_reducible refine hcall_.out.mono ?_); clear hcall_; rintro e_ w2_ ⟨rfl, hb_⟩; (have hq_ := HH.out.grow hb_); clear HH; have HH := hid hq_; clear hq_ hb_)
                    | ((with_reducible apply wpL_nilCheck); rfl; rfl)
                    | ((with_reducible apply wpL_loadArr (t := 34) kA34 HH.out); rfl; (first | exact .here | exact .there .here | exact .there (.there .here) | exact .there (.there (.there .here)) | exact .there (.there (.there (.there .here))) | exact .there (.there (.there (.there (.there .here)))) | exact .there (.there (.there (.there (.there (.there .here))))) | exact .there (.there (.there (.there (.there (.there (.there .here))))))); rfl)
                    | ((with_reducible apply wpL_loadC (t := 34) kA34 HH.out); rfl; (first | exact .here | exact .there .here | exact .there (.there .here) | exact .there (.there (.there .here)) | exact .there (.there (.there (.there .here))) | exact .there (.there (.there (.there (.there .here)))) | exact .there (.there (.there (.there (.there (.there .here))))) | exact .there (.there (.there (.there (.there (.there (.there .here))))))); (first | rfl | exact Arr.len _ | (simp; done)); rfl)
                    | ((with_reducible apply wpL_loadArr (t := 41) kA41 HH.out); rfl; (first | exact .here | exact .there .here | exact .there (.there .here) | exact .there (.there (.there .here)) | exact .there (.there (.there (.there .here))) | exact .there (.there (.there (.there (.there .here)))) | exact .there (.there (.there (.there (.there (.there .here))))) | exact .there (.there (.there (.there (.there (.there (.there .here))))))); rfl)
                    | ((with_reducible apply wpL_loadC (t := 41) kA41 HH.out); rfl; (first | exact .here | exact .there .here | exact .there (.there .here) | exact .there (.there (.there .here)) | exact .there (.there (.there (.there .here))) | exact .there (.there (.there (.there (.there .here)))) | exact .there (.there (.there (.there (.there (.there .here))))) | exact .there (.there (.there (.there (.there (.there (.there .here))))))); (first | rfl | exact Arr.len _ | (simp; done)); rfl)
                    | ((with_reducible apply wpL_len (t := 46) Try.underlying46); rfl; rfl)
                    | ((with_reducible apply wpL_boxArr (dst := some 2)); rfl; (exact HH.out); rfl; (intro g2_ w_ hq_; (try simp only [List.set_cons_zero, List.set_cons_succ] at hq_); clear HH; have HH := hid hq_; clear hq_))
                    | ((with_reducible apply wpL_allocC (dst := some 6) kZ34 HH.out); rfl; (intro g6_ w_ hq_; (try simp only [List.set_cons_zero, List.set_cons_succ] at hq_); clear HH; have HH := hid hq_; clear hq_))
                    | ((with_reducible apply wpL_allocC (dst := some 11) kZ34 HH.out); rfl; (intro g11_ w_ hq_; (try simp only [List.set_cons_zero, List.set_cons_succ] at hq_); clear HH; have HH := hid hq_; clear hq_))
                    | ((with_reducible apply wpL_allocC (dst := some 13) kZ34 HH.out); rfl; (intro g13_ w_ hq_; (try simp only [List.set_cons_zero, List.set_cons_succ] at hq_); clear HH; have HH := hid hq_; clear hq_))
                    | ((with_reducible apply wpL_allocC (dst := some 15) kZ34 HH.out); rfl; (intro g15_ w_ hq_; (try simp only [List.set_cons_zero, List.set_cons_succ] at hq_); clear HH; have HH := hid hq_; clear hq_))
                    | ((with_reducible apply wpL_allocC (dst := some 18) kZ34 HH.out); rfl; (intro g18_ w_ hq_; (try simp only [List.set_cons_zero, List.set_cons_succ] at hq_); clear HH; have HH := hid hq_; clear hq_))
                    | ((with_reducible apply wpL_storeArr (t := 34) kS34 HH.out); rfl; rfl; (first | exact .here | exact .there .here | exact .there (.there .here) | exact .there (.there (.there .here)) | exact .there (.there (.there (.there .here))) | exact .there (.there (.there (.there (.there .here)))) | exact .there (.there (.there (.there (.there (.there .here))))) | exact .there (.there (.there (.there (.there (.there (.there .here))))))); (first | rfl | exact Arr.len _ | (simp; done)); rfl; (intro w_ hq_; (try simp only [List.set_cons_zero, List.set_cons_succ] at hq_); clear HH; have HH := hid hq_; clear hq_))
                    | ((with_reducible apply wpL_storeC (t := 34)); rfl; rfl; (exact kS34); (exact HH.out); (first | exact .here | exact .there .here | exact .there (.there .here) | exact .there (.there (.there .here)) | exact .there (.there (.there (.there .here))) | exact .there (.there (.there (.there (.there .here)))) | exact .there (.there (.there (.there (.there (.there .here))))) | exact .there (.there (.there (.there (.there (.there (.there .here))))))); (first | rfl | exact Arr.len _ | (simp; done)); (first | rfl | (intro u_ hu_; simp only [List.mem_cons, List.not_mem_nil, or_false] at hu_; rcases hu_ with rfl | hu_; rfl) | exact byt_cell1 _ | exact cells_one _ | exact wrd_one _ | exact flat_cell1 _); (first | rfl | exact Arr.len _ | (simp; done)); rfl; (intro w_ hq_; (try simp only [List.set_cons_zero, List.set_cons_succ] at hq_); clear HH; have HH := hid hq_; clear hq_))
                    | ((with_reducible apply wpL_move); rfl; rfl)
                    | ((with_reducible apply wpL_assign); rfl; rfl)
                    | ((with_reducible apply wpL_pick); rfl; rfl; rfl)
                    | ((with_reducible apply wpL_not); rfl; rfl)
                    | ((with_reducible apply wpL_cmp (b := true)); rfl; rfl; rfl; (first | rfl | assumption | (simp only [cmpB, decide_eq_true_eq, decide_eq_false_iff_not, beq_iff_eq, bne_iff_ne, ne_eq, beq_eq_false_iff_ne, bne_eq_false_iff_eq, gt_iff_lt, ge_iff_le]; omega) | (simp; omega)); rfl)
                    | ((with_reducible apply wpL_cmp (b := false)); rfl; rfl; rfl; (first | rfl | assumption | (simp only [cmpB, decide_eq_true_eq, decide_eq_false_iff_not, beq_iff_eq, bne_iff_ne, ne_eq, beq_eq_false_iff_ne, bne_eq_false_iff_eq, gt_iff_lt, ge_iff_le]; omega) | (simp; omega)); rfl)
                    | ((with_reducible apply wpL_cmp); rfl; rfl; rfl; rfl; rfl)
                    | ((with_reducible apply wpL_arith); rfl; rfl; rfl; (exact IntWalk.i64_in _ (by (try simp only [arithI]); omega)); rfl)); (try simp only [arithI, Act.put, Act.eval, List.setIfInBounds_toArray, List.set_cons_succ, List.set_cons_zero, Array.getD_eq_getD_getElem?, List.getElem?_toArray, List.getElem?_cons_succ, List.getElem?_cons_zero, Option.getD_some])))
              go_ret
              exact RetB.mk rfl HH.out.below
end Go.Proofs.Ytgkfopodhikckaa

namespace Go.Proofs.Ytgkfopodhikckaa
open Go.ChangeShapes Go.WideShapes Go.ChangeAt Go.RowKit
set_option maxRecDepth 100000 in
theorem merkleLimits_lifted (os : Os) (started : os.Started) (H : Type) (enc : TypeId × Value → H) :
    ReturnsInHanded {} Try.checked os 7 .any (Rows.merkleLimitsSpec.pre6 enc Try.prog Try.f7 Rows.merkleLimitsRow.domain false) (Rows.merkleLimitsSpec.post enc Try.prog Try.f7 false true false false) := by
  refine returnsInHanded_of_change_sized (C := Try.checked) Try.own started (by kernel_rfl) Try.func7
    (ChangeSpec.witness6 (enc := enc) (C := Try.checked) false ⟨#[], #[(Arr.zero 16).val, .int .u8 0], []⟩ 8 (by kernel_rfl) (by kernel_rfl) (by kernel_rfl) (by kernel_rfl)) ?_
  intro W base args ds gs before hval0 hW _ hsz0 _
  have hsz : (DataW.weightsEach Try.prog (Try.f7.params.toList ++ Rows.merkleLimitsSpec.plain.varTypes Try.prog) (ds ++ gs)).all (· ≤ reachBytes) = true := hsz0
  have hval : ∀ (j : Nat) t v, Try.f7.params[j]? = some t → args[j]? = some v → Value.okWide Try.prog W .any base t v := hval0
  have hW' := hW
  obtain ⟨p, q, hA0, hV, rfl, _, _⟩ := hW
  have hA : DataW.TrodAll enc Try.prog W 0 (fun _ => true) true Try.f7.params.toList args.toList ds p := hA0
  rw [Try.params7] at hA hval hsz
  obtain ⟨v0, v1, d0, d1, p0, p1, rfl, rfl, rfl, h0, h1⟩ := trodAll_two hA
  obtain ⟨rfl, rfl⟩ := trodVars_none hV
  obtain ⟨x, rfl⟩ := open_arrA Try.underlying41 (by kernel_rfl) (hval 0 41 v0 rfl rfl) h0
  obtain ⟨m, rfl, rfl, rfl, wm⟩ := open_int Try.underlying5 (hval 1 5 v1 rfl rfl) h1
  have hcall := law_limits W x (UInt8.ofNat m.toNat)
  rw [← byte_of wm] at hcall
  refine (hcall).mono fun e W' ⟨he, hb⟩ => ?_
  exact ⟨_, he, post_true (tb := 4) Try.laidOut (readable_of (by kernel_rfl)) (by kernel_rfl) Try.underlying4 hW' rfl rfl hb⟩
theorem MerkleLimits_holds : Rows.MerkleLimitsSaid :=
  OpenClaim.holds_of_wide 7 Try.f7 rfl rfl rfl rfl rfl rfl rfl ⟨rfl, rfl, rfl, rfl, rfl⟩ rfl rfl rfl rfl rfl (by kernel_rfl) Try.func7 (by kernel_rfl)
    (of_decide_eq_true (by kernel_rfl)) (by unfold Func.isWrapper; rw [if_neg (by decide +kernel)]; exact ⟨rfl, rfl⟩)
    (fun os started H enc _ => merkleLimits_lifted os started H enc)
end Go.Proofs.Ytgkfopodhikckaa

