/- The laws Sha256Sum and Sha256Half: they return true. Condition: a slice of at most 2^47 bytes. -/
import Derived.Test.YtgkfopodhikckaaH6
set_option linter.unusedSimpArgs false
set_option linter.unusedVariables false
namespace Go.Proofs.Ytgkfopodhikckaa
open Go.RowKit
theorem bya (l : List UInt8) : (l == l) = true := beq_self_eq_true _
theorem arrRefl {n : Nat} (x : Arr n) : (x == x) = true := beq_self_eq_true _
set_option maxRecDepth 100000 in
set_option maxHeartbeats 2000000 in
theorem law_sum (w : World) (v : Value) (l : List UInt8) (hl : Byts w v l) : Calls Try.prog 3 #[v] w (RetB w true) := by
  obtain ⟨ao, cap, rfl, hc⟩ := hl.shape
  have HL := hid hl
  have HN := hid (show (cutB l).length ≤ 900000 from by have := cutB_len l; omega)
  clear hl
  have HH := hid (Holds.init w)
  go_enter Try.func3, Try.ntmps3
  go_wp2_with (first
    | ((first
        | ((with_reducible apply wpL_skip); rfl; skip)
        | (go_at_call 19; (first | ((have hcall_ := hid (cut_any _ _ _ l HL.out)); (with_reducible refine hcall_.out.mono ?_); clear hcall_) | (with_reducible refine (cut_any _ _ _ l HL.out).mono ?_)); rintro e_ w2_ ⟨ao1, cap1, rfl, hc1_, hb_⟩; (have hq_ := HH.out.grow hb_; have HC := hid hc1_; clear hc1_); clear HH; have HH := hid hq_; clear hq_)
        | ((with_reducible apply wpL_toStr Try.underlying22 Try.underlying5 Try.underlying9 (HH.out.sl HC.out)); rfl; rfl)
        | (go_at_call 20; (first | ((have hcall_ := hid (shaSum_any _ _ (cutB l) (HH.out.sl HC.out) HN.out)); (with_reducible refine hcall_.out.mono ?_); clear hcall_) | (with_reducible refine (shaSum_any _ _ (cutB l) (HH.out.sl HC.out) HN.out).mono ?_)); rintro e_ w2_ ⟨rfl, hb_⟩; (have hq_ := HH.out.grow hb_); clear HH; have HH := hid hq_; clear hq_ hb_)
        | ((with_reducible apply wpL_nilCheck); rfl; rfl)
        | ((with_reducible apply wpL_loadArr (t := 25) kA25 HH.out); rfl; (first | exact .here | exact .there .here | exact .there (.there .here) | exact .there (.there (.there .here)) | exact .there (.there (.there (.there .here))) | exact .there (.there (.there (.there (.there .here)))) | exact .there (.there (.there (.there (.there (.there .here))))) | exact .there (.there (.there (.there (.there (.there (.there .here))))))); rfl)
        | ((with_reducible apply wpL_loadC (t := 25) kA25 HH.out); rfl; (first | exact .here | exact .there .here | exact .there (.there .here) | exact .there (.there (.there .here)) | exact .there (.there (.there (.there .here))) | exact .there (.there (.there (.there (.there .here)))) | exact .there (.there (.there (.there (.there (.there .here))))) | exact .there (.there (.there (.there (.there (.there (.there .here))))))); (first | rfl | exact Arr.len _ | (simp; done)); rfl)
        | ((with_reducible apply wpL_allocC (dst := some 4) kZ25 HH.out); rfl; (intro g4_ w_ hq_; (try simp only [List.set_cons_zero, List.set_cons_succ] at hq_); clear HH; have HH := hid hq_; clear hq_))
        | ((with_reducible apply wpL_storeArr (t := 25) kS25 HH.out); rfl; rfl; (first | exact .here | exact .there .here | exact .there (.there .here) | exact .there (.there (.there .here)) | exact .there (.there (.there (.there .here))) | exact .there (.there (.there (.there (.there .here)))) | exact .there (.there (.there (.there (.there (.there .here))))) | exact .there (.there (.there (.there (.there (.there (.there .here))))))); (first | rfl | exact Arr.len _ | (simp; done)); rfl; (intro w_ hq_; (try simp only [List.set_cons_zero, List.set_cons_succ] at hq_); clear HH; have HH := hid hq_; clear hq_))
        | ((with_reducible apply wpL_storeC (t := 25)); rfl; rfl; (exact kS25); (exact HH.out); (first | exact .here | exact .there .here | exact .there (.there .here) | exact .there (.there (.there .here)) | exact .there (.there (.there (.there .here))) | exact .there (.there (.there (.there (.there .here)))) | exact .there (.there (.there (.there (.there (.there .here))))) | exact .there (.there (.there (.there (.there (.there (.there .here))))))); (first | rfl | exact Arr.len _ | (simp; done)); (first | rfl | (intro u_ hu_; simp only [List.mem_cons, List.not_mem_nil, or_false] at hu_; rcases hu_ with rfl | hu_; rfl) | exact byt_cell1 _ | exact cells_one _ | exact wrd_one _ | exact flat_cell1 _); (first | rfl | exact Arr.len _ | (simp; done)); rfl; (intro w_ hq_; (try simp only [List.set_cons_zero, List.set_cons_succ] at hq_); clear HH; have HH := hid hq_; clear hq_))
        | ((with_reducible apply wpL_move); rfl; rfl)
        | ((with_reducible apply wpL_assign); rfl; rfl)
        | ((with_reducible apply wpL_pick); rfl; rfl; rfl)
        | ((with_reducible apply wpL_not); rfl; rfl)
        | ((with_reducible apply wpL_cmp (b := true)); rfl; rfl; rfl; (first | rfl | assumption | (simp only [cmpB, decide_eq_true_eq, decide_eq_false_iff_not, beq_iff_eq, bne_iff_ne, ne_eq, beq_eq_false_iff_ne, bne_eq_false_iff_eq, gt_iff_lt, ge_iff_le]; omega) | (simp; omega)); rfl)
        | ((with_reducible apply wpL_cmp (b := false)); rfl; rfl; rfl; (first | rfl | assumption | (simp only [cmpB, decide_eq_true_eq, decide_eq_false_iff_not, beq_iff_eq, bne_iff_ne, ne_eq, beq_eq_false_iff_ne, bne_eq_false_iff_eq, gt_iff_lt, ge_iff_le]; omega) | (simp; omega)); rfl)
        | ((with_reducible apply wpL_cmp); rfl; rfl; rfl; rfl; rfl)
        | ((with_reducible apply wpL_arith); rfl; rfl; rfl; (exact IntWalk.i64_in _ (by (try simp only [arithI]); omega)); rfl)); (try simp only [arithI, Act.put, Act.eval, List.setIfInBounds_toArray, List.set_cons_succ, List.set_cons_zero, Array.getD_eq_getD_getElem?, List.getElem?_toArray, List.getElem?_cons_succ, List.getElem?_cons_zero, Option.getD_some])))
  refine wp_region_holds (by kernel_rfl) (by kernel_rfl) HH.out ?_
  repeat ((first
    | ((with_reducible apply wpQ_skip); rfl; skip)
    | ((with_reducible apply wpQ_call (v := .bool true) (args := #[]) kB21); rfl; (intro wq hwq; exact (known_any wq).mono fun e w' ⟨he, hb⟩ => ⟨he, hwq.grow hb⟩); rfl)
    | ((with_reducible apply wpQ_call (v := (sumB (cutB l)).val) (args := #[.slice ao1 (cutB l).length cap1]) kB22); rfl; (intro wq hwq; exact (sumR_any wq _ (cutB l) (hwq.sl HC.out) (by have := HN.out; omega)).mono fun e w' ⟨he, hb⟩ => ⟨he, hwq.grow hb⟩); rfl)
    | ((with_reducible apply wpQ_eqlA (b := true) (p := sumB (cutB l)) (q := sumB (cutB l)) kR24); rfl; rfl; (exact arrRefl _); rfl)
    | ((with_reducible apply wpQ_toStr (l := cutB l) Try.underlying22 Try.underlying5 Try.underlying9 (fun w1 h1 => Holds.sl h1 HC.out)); rfl; rfl)
    | ((with_reducible apply wpQ_eqlStr (b := true) Try.underlying9); rfl; rfl; (exact bya _); rfl)
    | ((with_reducible apply wpQ_nilCheck); rfl; rfl)
    | ((with_reducible apply wpQ_loadArr (t := 25) kA25); rfl; (first | exact .here | exact .there .here | exact .there (.there .here) | exact .there (.there (.there .here)) | exact .there (.there (.there (.there .here))) | exact .there (.there (.there (.there (.there .here)))) | exact .there (.there (.there (.there (.there (.there .here))))) | exact .there (.there (.there (.there (.there (.there (.there .here))))))); rfl)
    | ((with_reducible apply wpQ_loadC (t := 25) kA25); rfl; (first | exact .here | exact .there .here | exact .there (.there .here) | exact .there (.there (.there .here)) | exact .there (.there (.there (.there .here))) | exact .there (.there (.there (.there (.there .here)))) | exact .there (.there (.there (.there (.there (.there .here))))) | exact .there (.there (.there (.there (.there (.there (.there .here))))))); (first | rfl | exact Arr.len _ | (simp; done)); rfl)
    | ((with_reducible apply wpQ_move); rfl; rfl)
    | ((with_reducible apply wpQ_assign); rfl; rfl)
    | ((with_reducible apply wpQ_pick); rfl; rfl; rfl)
    | ((with_reducible apply wpQ_not); rfl; rfl)
    | ((with_reducible apply wpQ_cmp (b := true)); rfl; rfl; rfl; (first | rfl | assumption | (simp only [cmpB, decide_eq_true_eq, decide_eq_false_iff_not, beq_iff_eq, bne_iff_ne, ne_eq, beq_eq_false_iff_ne, bne_eq_false_iff_eq, gt_iff_lt, ge_iff_le]; omega) | (simp; omega)); rfl)
    | ((with_reducible apply wpQ_cmp (b := false)); rfl; rfl; rfl; (first | rfl | assumption | (simp only [cmpB, decide_eq_true_eq, decide_eq_false_iff_not, beq_iff_eq, bne_iff_ne, ne_eq, beq_eq_false_iff_ne, bne_eq_false_iff_eq, gt_iff_lt, ge_iff_le]; omega) | (simp; omega)); rfl)
    | ((with_reducible apply wpQ_cmp); rfl; rfl; rfl; rfl; rfl)
    | ((with_reducible apply wpQ_arith); rfl; rfl; rfl; (exact IntWalk.i64_in _ (by (try simp only [arithI]); omega)); rfl)); (try simp only [arithI, Act.put, Act.eval, List.setIfInBounds_toArray, List.set_cons_succ, List.set_cons_zero, Array.getD_eq_getD_getElem?, List.getElem?_toArray, List.getElem?_cons_succ, List.getElem?_cons_zero, Option.getD_some]))
  refine wpQuiet_nil ?_
  intro wq hq_
  have HQ := hid hq_
  clear hq_
  go_wp2
  go_ret
  exact RetB.mk rfl HQ.out.below
set_option maxRecDepth 100000 in
set_option maxHeartbeats 2000000 in
theorem law_half (w : World) (v : Value) (l : List UInt8) (hl : Byts w v l) : Calls Try.prog 6 #[v] w (RetB w true) := by
  obtain ⟨ao, cap, rfl, hc⟩ := hl.shape
  have HL := hid hl
  have HN := hid (show (cutB l).length ≤ 900000 from by have := cutB_len l; omega)
  clear hl
  have HH := hid (Holds.init w)
  go_enter Try.func6, Try.ntmps6
  go_wp2_with (first
    | ((first
        | ((with_reducible apply wpL_skip); rfl; skip)
        | (go_at_call 19; (first | ((have hcall_ := hid (cut_any _ _ _ l HL.out)); (with_reducible refine hcall_.out.mono ?_); clear hcall_) | (with_reducible refine (cut_any _ _ _ l HL.out).mono ?_)); rintro e_ w2_ ⟨ao1, cap1, rfl, hc1_, hb_⟩; (have hq_ := HH.out.grow hb_; have HC := hid hc1_; clear hc1_); clear HH; have HH := hid hq_; clear hq_)
        | (go_at_call 20; (first | ((have hcall_ := hid (shaSum_any _ _ (cutB l) (HH.out.sl HC.out) HN.out)); (with_reducible refine hcall_.out.mono ?_); clear hcall_) | (with_reducible refine (shaSum_any _ _ (cutB l) (HH.out.sl HC.out) HN.out).mono ?_)); rintro e_ w2_ ⟨rfl, hb_⟩; (have hq_ := HH.out.grow hb_); clear HH; have HH := hid hq_; clear hq_ hb_)
        | (go_at_call 35; (first | ((have hcall_ := hid (sumHalf_any _ _ (cutB l) (HH.out.sl HC.out) HN.out)); (with_reducible refine hcall_.out.mono ?_); clear hcall_) | (with_reducible refine (sumHalf_any _ _ (cutB l) (HH.out.sl HC.out) HN.out).mono ?_)); rintro e_ w2_ ⟨rfl, hb_⟩; (have hq_ := HH.out.grow hb_); clear HH; have HH := hid hq_; clear hq_ hb_)
        | ((with_reducible apply wpL_nilCheck); rfl; rfl)
        | ((with_reducible apply wpL_loadArr (t := 56) kA56 HH.out); rfl; (first | exact .here | exact .there .here | exact .there (.there .here) | exact .there (.there (.there .here)) | exact .there (.there (.there (.there .here))) | exact .there (.there (.there (.there (.there .here)))) | exact .there (.there (.there (.there (.there (.there .here))))) | exact .there (.there (.there (.there (.there (.there (.there .here))))))); rfl)
        | ((with_reducible apply wpL_loadC (t := 56) kA56 HH.out); rfl; (first | exact .here | exact .there .here | exact .there (.there .here) | exact .there (.there (.there .here)) | exact .there (.there (.there (.there .here))) | exact .there (.there (.there (.there (.there .here)))) | exact .there (.there (.there (.there (.there (.there .here))))) | exact .there (.there (.there (.there (.there (.there (.there .here))))))); (first | rfl | exact Arr.len _ | (simp; done)); rfl)
        | ((with_reducible apply wpL_allocC (dst := some 3) kZ25 HH.out); rfl; (intro g3_ w_ hq_; (try simp only [List.set_cons_zero, List.set_cons_succ] at hq_); clear HH; have HH := hid hq_; clear hq_))
        | ((with_reducible apply wpL_allocC (dst := some 4) kZ56 HH.out); rfl; (intro g4_ w_ hq_; (try simp only [List.set_cons_zero, List.set_cons_succ] at hq_); clear HH; have HH := hid hq_; clear hq_))
        | ((with_reducible apply wpL_storeArr (t := 25) kS25 HH.out); rfl; rfl; (first | exact .here | exact .there .here | exact .there (.there .here) | exact .there (.there (.there .here)) | exact .there (.there (.there (.there .here))) | exact .there (.there (.there (.there (.there .here)))) | exact .there (.there (.there (.there (.there (.there .here))))) | exact .there (.there (.there (.there (.there (.there (.there .here))))))); (first | rfl | exact Arr.len _ | (simp; done)); rfl; (intro w_ hq_; (try simp only [List.set_cons_zero, List.set_cons_succ] at hq_); clear HH; have HH := hid hq_; clear hq_))
        | ((with_reducible apply wpL_storeC (t := 25)); rfl; rfl; (exact kS25); (exact HH.out); (first | exact .here | exact .there .here | exact .there (.there .here) | exact .there (.there (.there .here)) | exact .there (.there (.there (.there .here))) | exact .there (.there (.there (.there (.there .here)))) | exact .there (.there (.there (.there (.there (.there .here))))) | exact .there (.there (.there (.there (.there (.there (.there .here))))))); (first | rfl | exact Arr.len _ | (simp; done)); (first | rfl | (intro u_ hu_; simp only [List.mem_cons, List.not_mem_nil, or_false] at hu_; rcases hu_ with rfl | hu_; rfl) | exact byt_cell1 _ | exact cells_one _ | exact wrd_one _ | exact flat_cell1 _); (first | rfl | exact Arr.len _ | (simp; done)); rfl; (intro w_ hq_; (try simp only [List.set_cons_zero, List.set_cons_succ] at hq_); clear HH; have HH := hid hq_; clear hq_))
        | ((with_reducible apply wpL_storeArr (t := 56) kS56 HH.out); rfl; rfl; (first | exact .here | exact .there .here | exact .there (.there .here) | exact .there (.there (.there .here)) | exact .there (.there (.there (.there .here))) | exact .there (.there (.there (.there (.there .here)))) | exact .there (.there (.there (.there (.there (.there .here))))) | exact .there (.there (.there (.there (.there (.there (.there .here))))))); (first | rfl | exact Arr.len _ | (simp; done)); rfl; (intro w_ hq_; (try simp only [List.set_cons_zero, List.set_cons_succ] at hq_); clear HH; have HH := hid hq_; clear hq_))
        | ((with_reducible apply wpL_storeC (t := 56)); rfl; rfl; (exact kS56); (exact HH.out); (first | exact .here | exact .there .here | exact .there (.there .here) | exact .there (.there (.there .here)) | exact .there (.there (.there (.there .here))) | exact .there (.there (.there (.there (.there .here)))) | exact .there (.there (.there (.there (.there (.there .here))))) | exact .there (.there (.there (.there (.there (.there (.there .here))))))); (first | rfl | exact Arr.len _ | (simp; done)); (first | rfl | (intro u_ hu_; simp only [List.mem_cons, List.not_mem_nil, or_false] at hu_; rcases hu_ with rfl | hu_; rfl) | exact byt_cell1 _ | exact cells_one _ | exact wrd_one _ | exact flat_cell1 _); (first | rfl | exact Arr.len _ | (simp; done)); rfl; (intro w_ hq_; (try simp only [List.set_cons_zero, List.set_cons_succ] at hq_); clear HH; have HH := hid hq_; clear hq_))
        | ((with_reducible apply wpL_move); rfl; rfl)
        | ((with_reducible apply wpL_assign); rfl; rfl)
        | ((with_reducible apply wpL_pick); rfl; rfl; rfl)
        | ((with_reducible apply wpL_not); rfl; rfl)
        | ((with_reducible apply wpL_cmp (b := true)); rfl; rfl; rfl; (first | rfl | assumption | (simp only [cmpB, decide_eq_true_eq, decide_eq_false_iff_not, beq_iff_eq, bne_iff_ne, ne_eq, beq_eq_false_iff_ne, bne_eq_false_iff_eq, gt_iff_lt, ge_iff_le]; omega) | (simp; omega)); rfl)
        | ((with_reducible apply wpL_cmp (b := false)); rfl; rfl; rfl; (first | rfl | assumption | (simp only [cmpB, decide_eq_true_eq, decide_eq_false_iff_not, beq_iff_eq, bne_iff_ne, ne_eq, beq_eq_false_iff_ne, bne_eq_false_iff_eq, gt_iff_lt, ge_iff_le]; omega) | (simp; omega)); rfl)
        | ((with_reducible apply wpL_cmp); rfl; rfl; rfl; rfl; rfl)
        | ((with_reducible apply wpL_arith); rfl; rfl; rfl; (exact IntWalk.i64_in _ (by (try simp only [arithI]); omega)); rfl)); (try simp only [arithI, Act.put, Act.eval, List.setIfInBounds_toArray, List.set_cons_succ, List.set_cons_zero, Array.getD_eq_getD_getElem?, List.getElem?_toArray, List.getElem?_cons_succ, List.getElem?_cons_zero, Option.getD_some])))
  refine wp_region_holds (by kernel_rfl) (by kernel_rfl) HH.out ?_
  repeat ((first
    | ((with_reducible apply wpQ_skip); rfl; skip)
    | ((with_reducible apply wpQ_call (v := .bool true) (args := #[]) kB21); rfl; (intro wq hwq; exact (known_any wq).mono fun e w' ⟨he, hb⟩ => ⟨he, hwq.grow hb⟩); rfl)
    | ((with_reducible apply wpQ_call (v := (halfA (sumB (cutB l))).val) (args := #[.slice ao1 (cutB l).length cap1]) kB36); rfl; (intro wq hwq; exact (refHalf_any wq _ (cutB l) (hwq.sl HC.out) HN.out).mono fun e w' ⟨he, hb⟩ => ⟨he, hwq.grow hb⟩); rfl)
    | ((with_reducible apply wpQ_sliceArr Try.underlying56 kS5); rfl; rfl)
    | ((with_reducible apply wpQ_sliceArrTo (m := 16) Try.underlying25 kS5); rfl; rfl; rfl; (exact (by omega)); rfl)
    | ((with_reducible apply wpQ_eqlA (b := true) (p := halfA (sumB (cutB l))) (q := halfA (sumB (cutB l))) kR33); rfl; rfl; (exact arrRefl _); rfl)
    | ((with_reducible apply wpQ_toStr (dst := some 14) (l := (halfA (sumB (cutB l))).1) Try.underlying22 Try.underlying5 Try.underlying9 (fun w1 h1 => Byts.ofArrAll (x := halfA (sumB (cutB l))) h1 .here)); rfl; rfl)
    | ((with_reducible apply wpQ_toStr (dst := some 16) (l := (halfA (sumB (cutB l))).1) Try.underlying22 Try.underlying5 Try.underlying9 (fun w1 h1 => Byts.ofArr (x := sumB (cutB l)) (m := 16) (cap := 32) h1 (.there .here) (by omega) (by omega))); rfl; rfl)
    | ((with_reducible apply wpQ_eqlStr (b := true) Try.underlying9); rfl; rfl; (exact bya _); rfl)
    | ((with_reducible apply wpQ_nilCheck); rfl; rfl)
    | ((with_reducible apply wpQ_loadArr (t := 56) kA56); rfl; (first | exact .here | exact .there .here | exact .there (.there .here) | exact .there (.there (.there .here)) | exact .there (.there (.there (.there .here))) | exact .there (.there (.there (.there (.there .here)))) | exact .there (.there (.there (.there (.there (.there .here))))) | exact .there (.there (.there (.there (.there (.there (.there .here))))))); rfl)
    | ((with_reducible apply wpQ_loadC (t := 56) kA56); rfl; (first | exact .here | exact .there .here | exact .there (.there .here) | exact .there (.there (.there .here)) | exact .there (.there (.there (.there .here))) | exact .there (.there (.there (.there (.there .here)))) | exact .there (.there (.there (.there (.there (.there .here))))) | exact .there (.there (.there (.there (.there (.there (.there .here))))))); (first | rfl | exact Arr.len _ | (simp; done)); rfl)
    | ((with_reducible apply wpQ_move); rfl; rfl)
    | ((with_reducible apply wpQ_assign); rfl; rfl)
    | ((with_reducible apply wpQ_pick); rfl; rfl; rfl)
    | ((with_reducible apply wpQ_not); rfl; rfl)
    | ((with_reducible apply wpQ_cmp (b := true)); rfl; rfl; rfl; (first | rfl | assumption | (simp only [cmpB, decide_eq_true_eq, decide_eq_false_iff_not, beq_iff_eq, bne_iff_ne, ne_eq, beq_eq_false_iff_ne, bne_eq_false_iff_eq, gt_iff_lt, ge_iff_le]; omega) | (simp; omega)); rfl)
    | ((with_reducible apply wpQ_cmp (b := false)); rfl; rfl; rfl; (first | rfl | assumption | (simp only [cmpB, decide_eq_true_eq, decide_eq_false_iff_not, beq_iff_eq, bne_iff_ne, ne_eq, beq_eq_false_iff_ne, bne_eq_false_iff_eq, gt_iff_lt, ge_iff_le]; omega) | (simp; omega)); rfl)
    | ((with_reducible apply wpQ_cmp); rfl; rfl; rfl; rfl; rfl)
    | ((with_reducible apply wpQ_arith); rfl; rfl; rfl; (exact IntWalk.i64_in _ (by (try simp only [arithI]); omega)); rfl)); (try simp only [arithI, Act.put, Act.eval, List.setIfInBounds_toArray, List.set_cons_succ, List.set_cons_zero, Array.getD_eq_getD_getElem?, List.getElem?_toArray, List.getElem?_cons_succ, List.getElem?_cons_zero, Option.getD_some]))
  refine wpQuiet_nil ?_
  intro wq hq_
  have HQ := hid hq_
  clear hq_
  go_wp2
  go_ret
  exact RetB.mk rfl HQ.out.below
end Go.Proofs.Ytgkfopodhikckaa
