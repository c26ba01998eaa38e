/- The example of the merkle laws. No condition. -/
import Derived.Test.YtgkfopodhikckaaQ33812d5
import Derived.Lib.SliceRun
set_option linter.unusedSimpArgs false
set_option linter.unusedVariables false
/- Join of the reference. No condition. -/
namespace Go.Proofs.Ytgkfopodhikckaa
open Go.RowKit
attribute [local irreducible] wpQuiet wpList
def RjRel (w : World) (pre : List UInt8) (z : Nd) (bs : List (Nat × Obj)) (v i : Value) (wr : World) : Prop :=
  ∃ (k : Nat) (l : List UInt8) (ao : Option Addr) (cap : Nat), k ≤ 16 ∧ i = .int .i64 k ∧ l = pre ++ z.1.take k ∧ v = .slice ao l.length cap ∧ Holds w [] bs [rowB ao cap l] wr
set_option maxRecDepth 100000 in
set_option maxHeartbeats 2000000 in
theorem joinR_any (w : World) (i : Int) (x y : Nd) : Calls Try.prog 47 #[.int .i64 i, x.val, y.val] w (RetA w (joinN i x y)) := by
  have HH := hid (Holds.init w)
  obtain ⟨lb, hlb⟩ : ∃ lb, i2b i = lb := ⟨_, rfl⟩
  have HLB := hid hlb
  obtain ⟨d, hd⟩ : ∃ d, joinN i x y = d := ⟨_, rfl⟩
  have HD := hid (show hashN ([1, lb] ++ x.1 ++ y.1) = d by rw [← hd, ← hlb]; rfl)
  have HX := hid x.2
  have HY := hid y.2
  obtain ⟨p0, hp0⟩ : ∃ p0, [1, lb] = p0 := ⟨_, rfl⟩
  have HP0 := hid hp0
  have HPL := hid (show p0.length = 2 by rw [← hp0]; rfl)
  rw [hp0] at HD
  rw [hd]
  clear hd hlb hp0
  go_enter Try.func47, Try.ntmps47
  go_wp2_with (first
    | ((first
        | ((with_reducible apply wpL_skip); rfl; skip)
        | ((with_reducible apply wpL_i2b (b := lb) Try.underlying3 Try.underlying5); rfl; (exact HLB.out); rfl)
        | ((with_reducible apply wpL_buildB p0); (exact HPL.out.symm); (rw [← HP0.out]; rfl); (exact (by decide)); (exact HH.out); rfl; (intro g_ w_ hq_; simp only [rowB, HPL.out] at hq_; clear HH; have HH := hid hq_; clear hq_))
        | ((with_reducible apply wpL_nilCheck); rfl; rfl)
        | ((with_reducible apply wpL_load1 (t := 5) kO5 HH.out); rfl; (first | exact .here | exact .there .here | exact .there (.there .here) | exact .there (.there (.there .here)) | exact .there (.there (.there (.there .here))) | exact .there (.there (.there (.there (.there .here)))) | exact .there (.there (.there (.there (.there (.there .here))))) | exact .there (.there (.there (.there (.there (.there (.there .here))))))); rfl; rfl)
        | ((with_reducible apply wpL_boxArr (dst := some 4)); rfl; (exact HH.out); rfl; (intro g4_ w_ hq_; (try simp only [List.set_cons_zero, List.set_cons_succ] at hq_); clear HH; have HH := hid hq_; clear hq_))
        | ((with_reducible apply wpL_boxArr (dst := some 5)); rfl; (exact HH.out); rfl; (intro g5_ w_ hq_; (try simp only [List.set_cons_zero, List.set_cons_succ] at hq_); clear HH; have HH := hid hq_; clear hq_))
        | ((with_reducible apply wpL_allocC (dst := some 6) kZ41 HH.out); rfl; (intro g6_ w_ hq_; (try simp only [List.set_cons_zero, List.set_cons_succ] at hq_); clear HH; have HH := hid hq_; clear hq_))
        | ((with_reducible apply wpL_storeArr (t := 41) kS41 HH.out); rfl; rfl; (first | exact .here | exact .there .here | exact .there (.there .here) | exact .there (.there (.there .here)) | exact .there (.there (.there (.there .here))) | exact .there (.there (.there (.there (.there .here)))) | exact .there (.there (.there (.there (.there (.there .here))))) | exact .there (.there (.there (.there (.there (.there (.there .here))))))); (first | rfl | exact Arr.len _ | (simp; done)); rfl; (intro w_ hq_; (try simp only [List.set_cons_zero, List.set_cons_succ] at hq_); clear HH; have HH := hid hq_; clear hq_))
        | ((with_reducible apply wpL_storeC (t := 41)); rfl; rfl; (exact kS41); (exact HH.out); (first | exact .here | exact .there .here | exact .there (.there .here) | exact .there (.there (.there .here)) | exact .there (.there (.there (.there .here))) | exact .there (.there (.there (.there (.there .here)))) | exact .there (.there (.there (.there (.there (.there .here))))) | exact .there (.there (.there (.there (.there (.there (.there .here))))))); (first | rfl | exact Arr.len _ | (simp; done)); (first | rfl | (intro u_ hu_; simp only [List.mem_cons, List.not_mem_nil, or_false] at hu_; rcases hu_ with rfl | hu_; rfl) | exact byt_cell1 _ | exact cells_one _ | exact wrd_one _ | exact flat_cell1 _); (first | rfl | exact Arr.len _ | (simp; done)); rfl; (intro w_ hq_; (try simp only [List.set_cons_zero, List.set_cons_succ] at hq_); clear HH; have HH := hid hq_; clear hq_))
        | ((with_reducible apply wpL_move); rfl; rfl)
        | ((with_reducible apply wpL_assign); rfl; rfl)
        | ((with_reducible apply wpL_pick); rfl; rfl; rfl)
        | ((with_reducible apply wpL_not); rfl; rfl)
        | ((with_reducible apply wpL_cmp (b := true)); rfl; rfl; rfl; (first | rfl | assumption | (simp only [cmpB, decide_eq_true_eq, decide_eq_false_iff_not, beq_iff_eq, bne_iff_ne, ne_eq, beq_eq_false_iff_ne, bne_eq_false_iff_eq, gt_iff_lt, ge_iff_le]; omega) | (simp; omega)); rfl)
        | ((with_reducible apply wpL_cmp (b := false)); rfl; rfl; rfl; (first | rfl | assumption | (simp only [cmpB, decide_eq_true_eq, decide_eq_false_iff_not, beq_iff_eq, bne_iff_ne, ne_eq, beq_eq_false_iff_ne, bne_eq_false_iff_eq, gt_iff_lt, ge_iff_le]; omega) | (simp; omega)); rfl)
        | ((with_reducible apply wpL_cmp); rfl; rfl; rfl; rfl; rfl)
        | ((with_reducible apply wpL_arith); rfl; rfl; rfl; (exact IntWalk.i64_in _ (by (try simp only [arithI]); omega)); rfl)); (try simp only [arithI, Act.put, Act.eval, List.setIfInBounds_toArray, List.set_cons_succ, List.set_cons_zero, Array.getD_eq_getD_getElem?, List.getElem?_toArray, List.getElem?_cons_succ, List.getElem?_cons_zero, Option.getD_some])))
  go_loopw [7, 8] (RjRel w p0 x [(g6_, objC Nd0.cells 41), (g5_, objC y.cells 41), (g4_, objC x.cells 41)]) (fun _ i _ => 16 - (intOf i).toNat)
  case atStart => exact ⟨0, p0, _, _, by omega, rfl, by simp, by rw [HPL.out], by rw [rowB, HPL.out]; exact HH.out⟩
  case round =>
    obtain ⟨k, l, ao1, cap1, hk, rfl, hl, rfl, hr⟩ := hrel
    clear HH
    have HH := hid hr
    have HLK := hid hl
    clear hr
    have hln : l.length ≤ 100 := by rw [hl, List.length_append, List.length_take, HPL.out]; omega
    clear hl
    by_cases hlt : k < 16
    · have hkl : k < x.1.length := by rw [HX.out]; omega
      obtain ⟨c, hc⟩ : ∃ c, x.1.getD k 0 = c := ⟨_, rfl⟩
      have HB := hid (show x.cells[0 + k]? = some (byt c) by rw [← hc, Nat.zero_add]; simp [Arr.cells, hkl])
      obtain ⟨l2, hl2⟩ : ∃ l2, l ++ [c] = l2 := ⟨_, rfl⟩
      have HL2 := hid hl2
      have HST := hid (show l2 = p0 ++ x.1.take (k + 1) by
        rw [← hl2, HLK.out, ← List.take_append_getElem hkl, List.append_assoc]
        simp [← hc, hkl])
      clear hc hl2
      go_wp2_with (first
        | ((first
            | ((with_reducible apply wpL_skip); rfl; skip)
            | ((with_reducible apply wpL_indexV0 (m := k) Try.underlying41 kS5); rfl; rfl; rfl; (exact (by omega)); rfl)
            | ((with_reducible apply wpL_load1 (j := 0 + k) (v := byt c) kO5 HH.out); rfl; (exact .there (.there .here)); (exact HB.out); rfl)
            | ((with_reducible apply wpL_buildB [c]); rfl; rfl; (exact (by decide)); (exact HH.out); rfl; (intro g_ w_ hq_; clear HH; have HH := hid hq_; clear hq_))
            | ((with_reducible apply wpL_appendBr (l := l) (l2 := [c]) (r := l2) HH.out.swap HH.out.sl0 HL2.out); rfl; rfl; (exact (by simp; omega)); rfl; rfl; rfl; (intro ao4 cap4 w_ hq_; clear HH; have HH := hid hq_.dropSnd; clear hq_))
            | ((with_reducible apply wpL_nilCheck); rfl; rfl)
            | ((with_reducible apply wpL_load1 (t := 5) kO5 HH.out); rfl; (first | exact .here | exact .there .here | exact .there (.there .here) | exact .there (.there (.there .here)) | exact .there (.there (.there (.there .here))) | exact .there (.there (.there (.there (.there .here)))) | exact .there (.there (.there (.there (.there (.there .here))))) | exact .there (.there (.there (.there (.there (.there (.there .here))))))); rfl; rfl)
            | ((with_reducible apply wpL_boxArr (dst := some 4)); rfl; (exact HH.out); rfl; (intro g4_ w_ hq_; (try simp only [List.set_cons_zero, List.set_cons_succ] at hq_); clear HH; have HH := hid hq_; clear hq_))
            | ((with_reducible apply wpL_boxArr (dst := some 5)); rfl; (exact HH.out); rfl; (intro g5_ w_ hq_; (try simp only [List.set_cons_zero, List.set_cons_succ] at hq_); clear HH; have HH := hid hq_; clear hq_))
            | ((with_reducible apply wpL_allocC (dst := some 6) kZ41 HH.out); rfl; (intro g6_ w_ hq_; (try simp only [List.set_cons_zero, List.set_cons_succ] at hq_); clear HH; have HH := hid hq_; clear hq_))
            | ((with_reducible apply wpL_storeArr (t := 41) kS41 HH.out); rfl; rfl; (first | exact .here | exact .there .here | exact .there (.there .here) | exact .there (.there (.there .here)) | exact .there (.there (.there (.there .here))) | exact .there (.there (.there (.there (.there .here)))) | exact .there (.there (.there (.there (.there (.there .here))))) | exact .there (.there (.there (.there (.there (.there (.there .here))))))); (first | rfl | exact Arr.len _ | (simp; done)); rfl; (intro w_ hq_; (try simp only [List.set_cons_zero, List.set_cons_succ] at hq_); clear HH; have HH := hid hq_; clear hq_))
            | ((with_reducible apply wpL_storeC (t := 41)); rfl; rfl; (exact kS41); (exact HH.out); (first | exact .here | exact .there .here | exact .there (.there .here) | exact .there (.there (.there .here)) | exact .there (.there (.there (.there .here))) | exact .there (.there (.there (.there (.there .here)))) | exact .there (.there (.there (.there (.there (.there .here))))) | exact .there (.there (.there (.there (.there (.there (.there .here))))))); (first | rfl | exact Arr.len _ | (simp; done)); (first | rfl | (intro u_ hu_; simp only [List.mem_cons, List.not_mem_nil, or_false] at hu_; rcases hu_ with rfl | hu_; rfl) | exact byt_cell1 _ | exact cells_one _ | exact wrd_one _ | exact flat_cell1 _); (first | rfl | exact Arr.len _ | (simp; done)); rfl; (intro w_ hq_; (try simp only [List.set_cons_zero, List.set_cons_succ] at hq_); clear HH; have HH := hid hq_; clear hq_))
            | ((with_reducible apply wpL_move); rfl; rfl)
            | ((with_reducible apply wpL_assign); rfl; rfl)
            | ((with_reducible apply wpL_pick); rfl; rfl; rfl)
            | ((with_reducible apply wpL_not); rfl; rfl)
            | ((with_reducible apply wpL_cmp (b := true)); rfl; rfl; rfl; (first | rfl | assumption | (simp only [cmpB, decide_eq_true_eq, decide_eq_false_iff_not, beq_iff_eq, bne_iff_ne, ne_eq, beq_eq_false_iff_ne, bne_eq_false_iff_eq, gt_iff_lt, ge_iff_le]; omega) | (simp; omega)); rfl)
            | ((with_reducible apply wpL_cmp (b := false)); rfl; rfl; rfl; (first | rfl | assumption | (simp only [cmpB, decide_eq_true_eq, decide_eq_false_iff_not, beq_iff_eq, bne_iff_ne, ne_eq, beq_eq_false_iff_ne, bne_eq_false_iff_eq, gt_iff_lt, ge_iff_le]; omega) | (simp; omega)); rfl)
            | ((with_reducible apply wpL_cmp); rfl; rfl; rfl; rfl; rfl)
            | ((with_reducible apply wpL_arith); rfl; rfl; rfl; (exact IntWalk.i64_in _ (by (try simp only [arithI]); omega)); rfl)); (try simp only [arithI, Act.put, Act.eval, List.setIfInBounds_toArray, List.set_cons_succ, List.set_cons_zero, Array.getD_eq_getD_getElem?, List.getElem?_toArray, List.getElem?_cons_succ, List.getElem?_cons_zero, Option.getD_some])))
      go_roundw
      case rel => exact ⟨k + 1, l2, _, _, by omega, by go_num, HST.out, rfl, HH.out⟩
      case measure => simp [intOf]; omega
    · obtain rfl : k = 16 := by omega
      have HE := hid (show l = p0 ++ x.1 by rw [HLK.out, List.take_of_length_le (by rw [HX.out]; exact Nat.le_refl _)])
      clear HLK
      obtain ⟨p1, hp1⟩ : ∃ p1, p0 ++ x.1 = p1 := ⟨_, rfl⟩
      have HP1 := hid hp1
      have HPL1 := hid (show p1.length = 18 by rw [← hp1, List.length_append, HPL.out, HX.out])
      rw [hp1] at HE HD
      clear hp1
      go_wp2_with (first
        | ((first
            | ((with_reducible apply wpL_skip); rfl; skip)
            | ((with_reducible apply wpL_nilCheck); rfl; rfl)
            | ((with_reducible apply wpL_load1 (t := 5) kO5 HH.out); rfl; (first | exact .here | exact .there .here | exact .there (.there .here) | exact .there (.there (.there .here)) | exact .there (.there (.there (.there .here))) | exact .there (.there (.there (.there (.there .here)))) | exact .there (.there (.there (.there (.there (.there .here))))) | exact .there (.there (.there (.there (.there (.there (.there .here))))))); rfl; rfl)
            | ((with_reducible apply wpL_boxArr (dst := some 4)); rfl; (exact HH.out); rfl; (intro g4_ w_ hq_; (try simp only [List.set_cons_zero, List.set_cons_succ] at hq_); clear HH; have HH := hid hq_; clear hq_))
            | ((with_reducible apply wpL_boxArr (dst := some 5)); rfl; (exact HH.out); rfl; (intro g5_ w_ hq_; (try simp only [List.set_cons_zero, List.set_cons_succ] at hq_); clear HH; have HH := hid hq_; clear hq_))
            | ((with_reducible apply wpL_allocC (dst := some 6) kZ41 HH.out); rfl; (intro g6_ w_ hq_; (try simp only [List.set_cons_zero, List.set_cons_succ] at hq_); clear HH; have HH := hid hq_; clear hq_))
            | ((with_reducible apply wpL_storeArr (t := 41) kS41 HH.out); rfl; rfl; (first | exact .here | exact .there .here | exact .there (.there .here) | exact .there (.there (.there .here)) | exact .there (.there (.there (.there .here))) | exact .there (.there (.there (.there (.there .here)))) | exact .there (.there (.there (.there (.there (.there .here))))) | exact .there (.there (.there (.there (.there (.there (.there .here))))))); (first | rfl | exact Arr.len _ | (simp; done)); rfl; (intro w_ hq_; (try simp only [List.set_cons_zero, List.set_cons_succ] at hq_); clear HH; have HH := hid hq_; clear hq_))
            | ((with_reducible apply wpL_storeC (t := 41)); rfl; rfl; (exact kS41); (exact HH.out); (first | exact .here | exact .there .here | exact .there (.there .here) | exact .there (.there (.there .here)) | exact .there (.there (.there (.there .here))) | exact .there (.there (.there (.there (.there .here)))) | exact .there (.there (.there (.there (.there (.there .here))))) | exact .there (.there (.there (.there (.there (.there (.there .here))))))); (first | rfl | exact Arr.len _ | (simp; done)); (first | rfl | (intro u_ hu_; simp only [List.mem_cons, List.not_mem_nil, or_false] at hu_; rcases hu_ with rfl | hu_; rfl) | exact byt_cell1 _ | exact cells_one _ | exact wrd_one _ | exact flat_cell1 _); (first | rfl | exact Arr.len _ | (simp; done)); rfl; (intro w_ hq_; (try simp only [List.set_cons_zero, List.set_cons_succ] at hq_); clear HH; have HH := hid hq_; clear hq_))
            | ((with_reducible apply wpL_move); rfl; rfl)
            | ((with_reducible apply wpL_assign); rfl; rfl)
            | ((with_reducible apply wpL_pick); rfl; rfl; rfl)
            | ((with_reducible apply wpL_not); rfl; rfl)
            | ((with_reducible apply wpL_cmp (b := true)); rfl; rfl; rfl; (first | rfl | assumption | (simp only [cmpB, decide_eq_true_eq, decide_eq_false_iff_not, beq_iff_eq, bne_iff_ne, ne_eq, beq_eq_false_iff_ne, bne_eq_false_iff_eq, gt_iff_lt, ge_iff_le]; omega) | (simp; omega)); rfl)
            | ((with_reducible apply wpL_cmp (b := false)); rfl; rfl; rfl; (first | rfl | assumption | (simp only [cmpB, decide_eq_true_eq, decide_eq_false_iff_not, beq_iff_eq, bne_iff_ne, ne_eq, beq_eq_false_iff_ne, bne_eq_false_iff_eq, gt_iff_lt, ge_iff_le]; omega) | (simp; omega)); rfl)
            | ((with_reducible apply wpL_cmp); rfl; rfl; rfl; rfl; rfl)
            | ((with_reducible apply wpL_arith); rfl; rfl; rfl; (exact IntWalk.i64_in _ (by (try simp only [arithI]); omega)); rfl)); (try simp only [arithI, Act.put, Act.eval, List.setIfInBounds_toArray, List.set_cons_succ, List.set_cons_zero, Array.getD_eq_getD_getElem?, List.getElem?_toArray, List.getElem?_cons_succ, List.getElem?_cons_zero, Option.getD_some])))
      go_loopw [7, 9] (RjRel w p1 y [(g6_, objC Nd0.cells 41), (g5_, objC y.cells 41), (g4_, objC x.cells 41)]) (fun _ i _ => 16 - (intOf i).toNat)
      case atStart => exact ⟨0, l, _, _, by omega, rfl, by rw [HE.out]; simp, rfl, HH.out⟩
      clear HE
      case round =>
        obtain ⟨k, l, ao1, cap1, hk, rfl, hl, rfl, hr⟩ := hrel
        clear HH
        have HH := hid hr
        have HLK := hid hl
        clear hr
        have hln : l.length ≤ 100 := by rw [hl, List.length_append, List.length_take, HPL1.out]; omega
        clear hl
        by_cases hlt : k < 16
        · have hkl : k < y.1.length := by rw [HY.out]; omega
          obtain ⟨c, hc⟩ : ∃ c, y.1.getD k 0 = c := ⟨_, rfl⟩
          have HB := hid (show y.cells[0 + k]? = some (byt c) by rw [← hc, Nat.zero_add]; simp [Arr.cells, hkl])
          obtain ⟨l2, hl2⟩ : ∃ l2, l ++ [c] = l2 := ⟨_, rfl⟩
          have HL2 := hid hl2
          have HST := hid (show l2 = p1 ++ y.1.take (k + 1) by
            rw [← hl2, HLK.out, ← List.take_append_getElem hkl, List.append_assoc]
            simp [← hc, hkl])
          clear hc hl2
          go_wp2_with (first
            | ((first
                | ((with_reducible apply wpL_skip); rfl; skip)
                | ((with_reducible apply wpL_indexV0 (m := k) Try.underlying41 kS5); rfl; rfl; rfl; (exact (by omega)); rfl)
                | ((with_reducible apply wpL_load1 (j := 0 + k) (v := byt c) kO5 HH.out); rfl; (exact .there .here); (exact HB.out); rfl)
                | ((with_reducible apply wpL_buildB [c]); rfl; rfl; (exact (by decide)); (exact HH.out); rfl; (intro g_ w_ hq_; clear HH; have HH := hid hq_; clear hq_))
                | ((with_reducible apply wpL_appendBr (l := l) (l2 := [c]) (r := l2) HH.out.swap HH.out.sl0 HL2.out); rfl; rfl; (exact (by simp; omega)); rfl; rfl; rfl; (intro ao4 cap4 w_ hq_; clear HH; have HH := hid hq_.dropSnd; clear hq_))
                | ((with_reducible apply wpL_nilCheck); rfl; rfl)
                | ((with_reducible apply wpL_load1 (t := 5) kO5 HH.out); rfl; (first | exact .here | exact .there .here | exact .there (.there .here) | exact .there (.there (.there .here)) | exact .there (.there (.there (.there .here))) | exact .there (.there (.there (.there (.there .here)))) | exact .there (.there (.there (.there (.there (.there .here))))) | exact .there (.there (.there (.there (.there (.there (.there .here))))))); rfl; rfl)
                | ((with_reducible apply wpL_boxArr (dst := some 4)); rfl; (exact HH.out); rfl; (intro g4_ w_ hq_; (try simp only [List.set_cons_zero, List.set_cons_succ] at hq_); clear HH; have HH := hid hq_; clear hq_))
                | ((with_reducible apply wpL_boxArr (dst := some 5)); rfl; (exact HH.out); rfl; (intro g5_ w_ hq_; (try simp only [List.set_cons_zero, List.set_cons_succ] at hq_); clear HH; have HH := hid hq_; clear hq_))
                | ((with_reducible apply wpL_allocC (dst := some 6) kZ41 HH.out); rfl; (intro g6_ w_ hq_; (try simp only [List.set_cons_zero, List.set_cons_succ] at hq_); clear HH; have HH := hid hq_; clear hq_))
                | ((with_reducible apply wpL_storeArr (t := 41) kS41 HH.out); rfl; rfl; (first | exact .here | exact .there .here | exact .there (.there .here) | exact .there (.there (.there .here)) | exact .there (.there (.there (.there .here))) | exact .there (.there (.there (.there (.there .here)))) | exact .there (.there (.there (.there (.there (.there .here))))) | exact .there (.there (.there (.there (.there (.there (.there .here))))))); (first | rfl | exact Arr.len _ | (simp; done)); rfl; (intro w_ hq_; (try simp only [List.set_cons_zero, List.set_cons_succ] at hq_); clear HH; have HH := hid hq_; clear hq_))
                | ((with_reducible apply wpL_storeC (t := 41)); rfl; rfl; (exact kS41); (exact HH.out); (first | exact .here | exact .there .here | exact .there (.there .here) | exact .there (.there (.there .here)) | exact .there (.there (.there (.there .here))) | exact .there (.there (.there (.there (.there .here)))) | exact .there (.there (.there (.there (.there (.there .here))))) | exact .there (.there (.there (.there (.there (.there (.there .here))))))); (first | rfl | exact Arr.len _ | (simp; done)); (first | rfl | (intro u_ hu_; simp only [List.mem_cons, List.not_mem_nil, or_false] at hu_; rcases hu_ with rfl | hu_; rfl) | exact byt_cell1 _ | exact cells_one _ | exact wrd_one _ | exact flat_cell1 _); (first | rfl | exact Arr.len _ | (simp; done)); rfl; (intro w_ hq_; (try simp only [List.set_cons_zero, List.set_cons_succ] at hq_); clear HH; have HH := hid hq_; clear hq_))
                | ((with_reducible apply wpL_move); rfl; rfl)
                | ((with_reducible apply wpL_assign); rfl; rfl)
                | ((with_reducible apply wpL_pick); rfl; rfl; rfl)
                | ((with_reducible apply wpL_not); rfl; rfl)
                | ((with_reducible apply wpL_cmp (b := true)); rfl; rfl; rfl; (first | rfl | assumption | (simp only [cmpB, decide_eq_true_eq, decide_eq_false_iff_not, beq_iff_eq, bne_iff_ne, ne_eq, beq_eq_false_iff_ne, bne_eq_false_iff_eq, gt_iff_lt, ge_iff_le]; omega) | (simp; omega)); rfl)
                | ((with_reducible apply wpL_cmp (b := false)); rfl; rfl; rfl; (first | rfl | assumption | (simp only [cmpB, decide_eq_true_eq, decide_eq_false_iff_not, beq_iff_eq, bne_iff_ne, ne_eq, beq_eq_false_iff_ne, bne_eq_false_iff_eq, gt_iff_lt, ge_iff_le]; omega) | (simp; omega)); rfl)
                | ((with_reducible apply wpL_cmp); rfl; rfl; rfl; rfl; rfl)
                | ((with_reducible apply wpL_arith); rfl; rfl; rfl; (exact IntWalk.i64_in _ (by (try simp only [arithI]); omega)); rfl)); (try simp only [arithI, Act.put, Act.eval, List.setIfInBounds_toArray, List.set_cons_succ, List.set_cons_zero, Array.getD_eq_getD_getElem?, List.getElem?_toArray, List.getElem?_cons_succ, List.getElem?_cons_zero, Option.getD_some])))
          go_roundw
          case rel => exact ⟨k + 1, l2, _, _, by omega, by go_num, HST.out, rfl, HH.out⟩
          case measure => simp [intOf]; omega
        · obtain rfl : k = 16 := by omega
          have HE := hid (show l = p1 ++ y.1 by rw [HLK.out, List.take_of_length_le (by rw [HY.out]; exact Nat.le_refl _)])
          clear HLK
          have HLN := hid (show l.length ≤ 900000 by omega)
          have HD2 := hid (show hashN l = d by rw [HE.out, HD.out])
          go_wp2_with (first
            | ((first
                | ((with_reducible apply wpL_skip); rfl; skip)
                | (go_at_call 72; (have hcall_ := hid (half_any _ _ l HH.out.sl0 HLN.out)); (with_reducible refine hcall_.out.mono ?_); clear hcall_; rw [HD2.out]; rintro e_ w2_ ⟨rfl, hb_⟩; (have hq_ := HH.out.grow hb_); clear HH; have HH := hid hq_; clear hq_ hb_)
                | ((with_reducible apply wpL_storeC (t := 41) (vs := d.cells)); rfl; rfl; (exact kS41); (exact HH.out); (exact .here); (exact Arr.len _); (exact cells_one _); (exact Arr.len _); rfl; (intro w_ hq_; clear HH; have HH := hid hq_; clear hq_))
                | ((with_reducible apply wpL_nilCheck); rfl; rfl)
                | ((with_reducible apply wpL_load1 (t := 5) kO5 HH.out); rfl; (first | exact .here | exact .there .here | exact .there (.there .here) | exact .there (.there (.there .here)) | exact .there (.there (.there (.there .here))) | exact .there (.there (.there (.there (.there .here)))) | exact .there (.there (.there (.there (.there (.there .here))))) | exact .there (.there (.there (.there (.there (.there (.there .here))))))); rfl; rfl)
                | ((with_reducible apply wpL_boxArr (dst := some 4)); rfl; (exact HH.out); rfl; (intro g4_ w_ hq_; (try simp only [List.set_cons_zero, List.set_cons_succ] at hq_); clear HH; have HH := hid hq_; clear hq_))
                | ((with_reducible apply wpL_boxArr (dst := some 5)); rfl; (exact HH.out); rfl; (intro g5_ w_ hq_; (try simp only [List.set_cons_zero, List.set_cons_succ] at hq_); clear HH; have HH := hid hq_; clear hq_))
                | ((with_reducible apply wpL_allocC (dst := some 6) kZ41 HH.out); rfl; (intro g6_ w_ hq_; (try simp only [List.set_cons_zero, List.set_cons_succ] at hq_); clear HH; have HH := hid hq_; clear hq_))
                | ((with_reducible apply wpL_storeArr (t := 41) kS41 HH.out); rfl; rfl; (first | exact .here | exact .there .here | exact .there (.there .here) | exact .there (.there (.there .here)) | exact .there (.there (.there (.there .here))) | exact .there (.there (.there (.there (.there .here)))) | exact .there (.there (.there (.there (.there (.there .here))))) | exact .there (.there (.there (.there (.there (.there (.there .here))))))); (first | rfl | exact Arr.len _ | (simp; done)); rfl; (intro w_ hq_; (try simp only [List.set_cons_zero, List.set_cons_succ] at hq_); clear HH; have HH := hid hq_; clear hq_))
                | ((with_reducible apply wpL_storeC (t := 41)); rfl; rfl; (exact kS41); (exact HH.out); (first | exact .here | exact .there .here | exact .there (.there .here) | exact .there (.there (.there .here)) | exact .there (.there (.there (.there .here))) | exact .there (.there (.there (.there (.there .here)))) | exact .there (.there (.there (.there (.there (.there .here))))) | exact .there (.there (.there (.there (.there (.there (.there .here))))))); (first | rfl | exact Arr.len _ | (simp; done)); (first | rfl | (intro u_ hu_; simp only [List.mem_cons, List.not_mem_nil, or_false] at hu_; rcases hu_ with rfl | hu_; rfl) | exact byt_cell1 _ | exact cells_one _ | exact wrd_one _ | exact flat_cell1 _); (first | rfl | exact Arr.len _ | (simp; done)); rfl; (intro w_ hq_; (try simp only [List.set_cons_zero, List.set_cons_succ] at hq_); clear HH; have HH := hid hq_; clear hq_))
                | ((with_reducible apply wpL_move); rfl; rfl)
                | ((with_reducible apply wpL_assign); rfl; rfl)
                | ((with_reducible apply wpL_pick); rfl; rfl; rfl)
                | ((with_reducible apply wpL_not); rfl; rfl)
                | ((with_reducible apply wpL_cmp (b := true)); rfl; rfl; rfl; (first | rfl | assumption | (simp only [cmpB, decide_eq_true_eq, decide_eq_false_iff_not, beq_iff_eq, bne_iff_ne, ne_eq, beq_eq_false_iff_ne, bne_eq_false_iff_eq, gt_iff_lt, ge_iff_le]; omega) | (simp; omega)); rfl)
                | ((with_reducible apply wpL_cmp (b := false)); rfl; rfl; rfl; (first | rfl | assumption | (simp only [cmpB, decide_eq_true_eq, decide_eq_false_iff_not, beq_iff_eq, bne_iff_ne, ne_eq, beq_eq_false_iff_ne, bne_eq_false_iff_eq, gt_iff_lt, ge_iff_le]; omega) | (simp; omega)); rfl)
                | ((with_reducible apply wpL_cmp); rfl; rfl; rfl; rfl; rfl)
                | ((with_reducible apply wpL_arith); rfl; rfl; rfl; (exact IntWalk.i64_in _ (by (try simp only [arithI]); omega)); rfl)); (try simp only [arithI, Act.put, Act.eval, List.setIfInBounds_toArray, List.set_cons_succ, List.set_cons_zero, Array.getD_eq_getD_getElem?, List.getElem?_toArray, List.getElem?_cons_succ, List.getElem?_cons_zero, Option.getD_some])))
          refine bodyPost_ret (res1 rfl (resC kA41 HH.out (by rfl) .here (Arr.len _))) rfl ?_
          exact ⟨rfl, HH.out.below⟩
end Go.Proofs.Ytgkfopodhikckaa

/- The levels of a tree, plainly; check and Clone of merkle. Condition: at most 2^47 bytes. -/
namespace Go.Proofs.Ytgkfopodhikckaa
open Go.RowKit
attribute [local irreducible] wpQuiet wpList
theorem Holds.perm {w0 w : World} {S : List Nat} {bs : List (Nat × Obj)} {rows rows' : List Row} (h : Holds w0 S bs rows w) (hp : rows.Perm rows') : Holds w0 S bs rows' w :=
  ⟨h.os, h.tape, h.output, h.size, h.old, h.blk, h.frs, fun x hx => h.row x (hp.mem_iff.2 hx), (List.Perm.nodup_iff (List.Perm.append_left _ (hp.filterMap _))).1 h.sep, h.inS⟩
/-- The next level. -/
def upL (lev : Nat) : List Nd → List Nd
  | x :: y :: r => joinN (lev : Int) x y :: upL lev r
  | _ => []
theorem upL_len (lev : Nat) : ∀ (n : Nat) (l : List Nd), l.length = 2 * n → (upL lev l).length = n
  | 0, [], _ => rfl
  | 0, _ :: _, h => by simp at h
  | n + 1, [], h => by simp at h
  | n + 1, [_], h => by simp at h; omega
  | n + 1, x :: y :: r, h => by
    have : (upL lev r).length = n := upL_len lev n r (by simp at h; omega)
    simp [upL, this]
theorem upL_get (lev : Nat) : ∀ (l : List Nd) (j : Nat), 2 * j + 1 < l.length → (upL lev l)[j]? = some (joinN lev (l.getD (2 * j) Nd0) (l.getD (2 * j + 1) Nd0))
  | [], j, h => by simp at h
  | [_], j, h => by simp at h
  | x :: y :: r, 0, h => by simp [upL]
  | x :: y :: r, j + 1, h => by
    rw [upL, List.getElem?_cons_succ, upL_get lev r j (by simp at h; omega)]
    rfl
/-- Level k of the tree. -/
def levAt (l : List Nd) : Nat → List Nd
  | 0 => l
  | k + 1 => upL (k + 1) (levAt l k)
theorem levAt_len {l : List Nd} {h : Nat} (hl : l.length = 2 ^ h) : ∀ k, k ≤ h → (levAt l k).length = 2 ^ (h - k)
  | 0, _ => hl
  | k + 1, hk => by
    have ih := levAt_len hl k (by omega)
    rw [levAt]
    refine upL_len _ _ _ ?_
    rw [ih, show h - k = (h - (k + 1)) + 1 by omega, Nat.pow_succ]
    omega
/-- What check answers. -/
def checkC (n : Nat) : Int := if n = 0 then 1 else if 1024 < n then 9 else if n &&& (n - 1) = 0 then 0 else 2
theorem pow_all : ∀ n : Fin 1025, n.1 ≠ 0 → n.1 &&& (n.1 - 1) = 0 → (List.range 11).any fun h => n.1 == 2 ^ h := by decide +kernel
theorem check_pow {n : Nat} (h : checkC n = 0) : ∃ k, k ≤ 10 ∧ n = 2 ^ k := by
  unfold checkC at h
  split at h
  · cases h
  · split at h
    · cases h
    · split at h
      · rename_i h0 h1 h2
        have := pow_all ⟨n, by omega⟩ h0 h2
        obtain ⟨k, hk, hn⟩ := List.any_eq_true.1 this
        exact ⟨k, by simp at hk; omega, by simpa using hn⟩
      · cases h
def RetI (w : World) (n : Int) (e : Ending) (w' : World) : Prop := e = .returned (.int .i64 n) ∧ Below w.heap.size w w'
theorem RetI.mk {w w' : World} {b c : Int} (h : b = c) (hb : Below w.heap.size w w') : RetI w c (.returned (.int .i64 b)) w' := ⟨by rw [h], hb⟩
set_option maxRecDepth 100000 in
set_option maxHeartbeats 2000000 in
theorem check_any (w : World) (v : Value) (l : List Nd) (hl : Arrs w v l) (hn : l.length ≤ 1000000000) : Calls Try.prog 67 #[v] w (RetI w (checkC l.length)) := by
  obtain ⟨ao, cap, rfl, hc⟩ := hl.shape
  clear hl
  obtain ⟨n, hln⟩ : ∃ n, l.length = n := ⟨_, rfl⟩
  rw [hln] at hn hc
  rw [hln]
  clear hln
  have HH := hid (Holds.init w)
  by_cases h0 : n = 0
  · have e : checkC n = 1 := by unfold checkC; rw [if_pos h0]
    rw [e]
    clear e
    go_enter Try.func67, Try.ntmps67
    go_wp2_with (first
      | ((first
          | ((with_reducible apply wpL_skip); rfl; skip)
          | ((with_reducible apply wpL_nilCheck); rfl; rfl)
          | ((with_reducible apply wpL_len (t := 46) Try.underlying46); rfl; rfl)
          | ((with_reducible apply wpL_move); rfl; rfl)
          | ((with_reducible apply wpL_assign); rfl; rfl)
          | ((with_reducible apply wpL_pick); rfl; rfl; rfl)
          | ((with_reducible apply wpL_not); rfl; rfl)
          | ((with_reducible apply wpL_cmp (b := true)); rfl; rfl; rfl; (first | rfl | assumption | (simp only [cmpB, decide_eq_true_eq, decide_eq_false_iff_not, beq_iff_eq, bne_iff_ne, ne_eq, beq_eq_false_iff_ne, bne_eq_false_iff_eq, gt_iff_lt, ge_iff_le]; omega) | (simp; omega)); rfl)
          | ((with_reducible apply wpL_cmp (b := false)); rfl; rfl; rfl; (first | rfl | assumption | (simp only [cmpB, decide_eq_true_eq, decide_eq_false_iff_not, beq_iff_eq, bne_iff_ne, ne_eq, beq_eq_false_iff_ne, bne_eq_false_iff_eq, gt_iff_lt, ge_iff_le]; omega) | (simp; omega)); rfl)
          | ((with_reducible apply wpL_cmp); rfl; rfl; rfl; rfl; rfl)
          | ((with_reducible apply wpL_arith); rfl; rfl; rfl; (exact IntWalk.i64_in _ (by (try simp only [arithI]); omega)); rfl)); (try simp only [arithI, Act.put, Act.eval, List.setIfInBounds_toArray, List.set_cons_succ, List.set_cons_zero, Array.getD_eq_getD_getElem?, List.getElem?_toArray, List.getElem?_cons_succ, List.getElem?_cons_zero, Option.getD_some])))
    go_ret
    exact RetI.mk rfl HH.out.below
  · by_cases h1 : 1024 < n
    · have e : checkC n = 9 := by unfold checkC; rw [if_neg h0, if_pos h1]
      rw [e]
      clear e
      go_enter Try.func67, Try.ntmps67
      go_wp2_with (first
        | ((first
            | ((with_reducible apply wpL_skip); rfl; skip)
            | ((with_reducible apply wpL_nilCheck); rfl; rfl)
            | ((with_reducible apply wpL_len (t := 46) Try.underlying46); rfl; rfl)
            | ((with_reducible apply wpL_move); rfl; rfl)
            | ((with_reducible apply wpL_assign); rfl; rfl)
            | ((with_reducible apply wpL_pick); rfl; rfl; rfl)
            | ((with_reducible apply wpL_not); rfl; rfl)
            | ((with_reducible apply wpL_cmp (b := true)); rfl; rfl; rfl; (first | rfl | assumption | (simp only [cmpB, decide_eq_true_eq, decide_eq_false_iff_not, beq_iff_eq, bne_iff_ne, ne_eq, beq_eq_false_iff_ne, bne_eq_false_iff_eq, gt_iff_lt, ge_iff_le]; omega) | (simp; omega)); rfl)
            | ((with_reducible apply wpL_cmp (b := false)); rfl; rfl; rfl; (first | rfl | assumption | (simp only [cmpB, decide_eq_true_eq, decide_eq_false_iff_not, beq_iff_eq, bne_iff_ne, ne_eq, beq_eq_false_iff_ne, bne_eq_false_iff_eq, gt_iff_lt, ge_iff_le]; omega) | (simp; omega)); rfl)
            | ((with_reducible apply wpL_cmp); rfl; rfl; rfl; rfl; rfl)
            | ((with_reducible apply wpL_arith); rfl; rfl; rfl; (exact IntWalk.i64_in _ (by (try simp only [arithI]); omega)); rfl)); (try simp only [arithI, Act.put, Act.eval, List.setIfInBounds_toArray, List.set_cons_succ, List.set_cons_zero, Array.getD_eq_getD_getElem?, List.getElem?_toArray, List.getElem?_cons_succ, List.getElem?_cons_zero, Option.getD_some])))
      go_ret
      exact RetI.mk rfl HH.out.below
    · obtain ⟨c, hc⟩ : ∃ c, n &&& (n - 1) = c := ⟨_, rfl⟩
      have HC := hid hc
      have hcn : c ≤ 1024 := by rw [← hc]; exact Nat.le_trans Nat.and_le_left (by omega)
      have HN1 := hid (show ((n : Int) - 1) = ((n - 1 : Nat) : Int) by omega)
      have HB1 := hid (show n < 2 ^ IntKind.i64.bits from Nat.lt_of_lt_of_le (show n < 1025 by omega) (by decide))
      have HB2 := hid (show n - 1 < 2 ^ IntKind.i64.bits from Nat.lt_of_lt_of_le (show n - 1 < 1025 by omega) (by decide))
      have HW := hid (show IntKind.i64.wrap ((c : Nat) : Int) = (c : Int) from IntWalk.i64_in _ (by omega))
      by_cases hz : c = 0
      · have e : checkC n = 0 := by unfold checkC; rw [if_neg h0, if_neg h1, if_pos (by rw [hc]; exact hz)]
        rw [e]
        clear e hc
        go_enter Try.func67, Try.ntmps67
        go_wp2_with (first
          | ((first
              | ((with_reducible apply wpL_skip); rfl; skip)
              | ((with_reducible apply wpL_and (m := n) (n := n - 1) (r := c)); rfl; rfl; rfl; (exact HN1.out); (exact HB1.out); (exact HB2.out); (exact HC.out); (exact HW.out); rfl)
              | ((with_reducible apply wpL_nilCheck); rfl; rfl)
              | ((with_reducible apply wpL_len (t := 46) Try.underlying46); rfl; rfl)
              | ((with_reducible apply wpL_move); rfl; rfl)
              | ((with_reducible apply wpL_assign); rfl; rfl)
              | ((with_reducible apply wpL_pick); rfl; rfl; rfl)
              | ((with_reducible apply wpL_not); rfl; rfl)
              | ((with_reducible apply wpL_cmp (b := true)); rfl; rfl; rfl; (first | rfl | assumption | (simp only [cmpB, decide_eq_true_eq, decide_eq_false_iff_not, beq_iff_eq, bne_iff_ne, ne_eq, beq_eq_false_iff_ne, bne_eq_false_iff_eq, gt_iff_lt, ge_iff_le]; omega) | (simp; omega)); rfl)
              | ((with_reducible apply wpL_cmp (b := false)); rfl; rfl; rfl; (first | rfl | assumption | (simp only [cmpB, decide_eq_true_eq, decide_eq_false_iff_not, beq_iff_eq, bne_iff_ne, ne_eq, beq_eq_false_iff_ne, bne_eq_false_iff_eq, gt_iff_lt, ge_iff_le]; omega) | (simp; omega)); rfl)
              | ((with_reducible apply wpL_cmp); rfl; rfl; rfl; rfl; rfl)
              | ((with_reducible apply wpL_arith); rfl; rfl; rfl; (exact IntWalk.i64_in _ (by (try simp only [arithI]); omega)); rfl)); (try simp only [arithI, Act.put, Act.eval, List.setIfInBounds_toArray, List.set_cons_succ, List.set_cons_zero, Array.getD_eq_getD_getElem?, List.getElem?_toArray, List.getElem?_cons_succ, List.getElem?_cons_zero, Option.getD_some])))
        go_ret
        exact RetI.mk rfl HH.out.below
      · have e : checkC n = 2 := by unfold checkC; rw [if_neg h0, if_neg h1, if_neg (by rw [hc]; exact hz)]
        rw [e]
        clear e hc
        go_enter Try.func67, Try.ntmps67
        go_wp2_with (first
          | ((first
              | ((with_reducible apply wpL_skip); rfl; skip)
              | ((with_reducible apply wpL_and (m := n) (n := n - 1) (r := c)); rfl; rfl; rfl; (exact HN1.out); (exact HB1.out); (exact HB2.out); (exact HC.out); (exact HW.out); rfl)
              | ((with_reducible apply wpL_nilCheck); rfl; rfl)
              | ((with_reducible apply wpL_len (t := 46) Try.underlying46); rfl; rfl)
              | ((with_reducible apply wpL_move); rfl; rfl)
              | ((with_reducible apply wpL_assign); rfl; rfl)
              | ((with_reducible apply wpL_pick); rfl; rfl; rfl)
              | ((with_reducible apply wpL_not); rfl; rfl)
              | ((with_reducible apply wpL_cmp (b := true)); rfl; rfl; rfl; (first | rfl | assumption | (simp only [cmpB, decide_eq_true_eq, decide_eq_false_iff_not, beq_iff_eq, bne_iff_ne, ne_eq, beq_eq_false_iff_ne, bne_eq_false_iff_eq, gt_iff_lt, ge_iff_le]; omega) | (simp; omega)); rfl)
              | ((with_reducible apply wpL_cmp (b := false)); rfl; rfl; rfl; (first | rfl | assumption | (simp only [cmpB, decide_eq_true_eq, decide_eq_false_iff_not, beq_iff_eq, bne_iff_ne, ne_eq, beq_eq_false_iff_ne, bne_eq_false_iff_eq, gt_iff_lt, ge_iff_le]; omega) | (simp; omega)); rfl)
              | ((with_reducible apply wpL_cmp); rfl; rfl; rfl; rfl; rfl)
              | ((with_reducible apply wpL_arith); rfl; rfl; rfl; (exact IntWalk.i64_in _ (by (try simp only [arithI]); omega)); rfl)); (try simp only [arithI, Act.put, Act.eval, List.setIfInBounds_toArray, List.set_cons_succ, List.set_cons_zero, Array.getD_eq_getD_getElem?, List.getElem?_toArray, List.getElem?_cons_succ, List.getElem?_cons_zero, Option.getD_some])))
        go_ret
        exact RetI.mk rfl HH.out.below
/-- A slice of arrays, new. -/
def RetAs {n : Nat} (E : TypeId) (w : World) (l : List (Arr n)) (e : Ending) (w' : World) : Prop :=
  ∃ ao cap, e = .returned (.slice ao l.length cap) ∧ w'.ownsRow w.heap.size E n (.slice ao l.length cap) l.length (flat l) ∧ Below w.heap.size w w'
theorem RetAs.of {n : Nat} {E : TypeId} {w w' : World} {l m : List (Arr n)} {ao : Option Addr} {cap : Nat} (h : l = m) (ho : w'.ownsRow w.heap.size E n (.slice ao l.length cap) l.length (flat l)) (hb : Below w.heap.size w w') : RetAs E w m (.returned (.slice ao l.length cap)) w' := by
  subst h; exact ⟨_, _, rfl, ho, hb⟩
set_option maxRecDepth 100000 in
set_option maxHeartbeats 2000000 in
theorem cloneN_any (w : World) (v : Value) (l : List Nd) (hl : Arrs w v l) (hn : l.length ≤ 1000000000) : Calls Try.prog 82 #[v] w (RetAs 34 w l) := by
  obtain ⟨ao, cap, rfl, _⟩ := hl.shape
  have HH := hid (Holds.init w)
  have qT : ∀ (w : World) (a : Option Addr) (n c n' c' : Nat), (binOp .eql 46 (.slice a n c) (.slice none n' c')).run Try.prog w = .ok (.bool a.isNone) w := fun w a n c n' c' => Lib.run_eql_slice_nil w _ _ a n c n' c' Try.underlying46
  cases ao with
  | none =>
    have h0 : l = [] := by
      cases l with
      | nil => rfl
      | cons x l => obtain ⟨a, c, e⟩ := hl.some (by simp); cases e
    subst h0
    go_enter Try.func82, Try.ntmps82
    go_wp2
    go_ret
    exact ⟨none, 0, rfl, by simpa [flat] using World.ownsRow_nil w w.heap.size 34 16, Below.refl _ _⟩
  | some a =>
    have HL := hid hl
    clear hl
    go_enter Try.func82, Try.ntmps82
    go_wp2_with (first
      | ((first
          | ((with_reducible apply wpL_skip); rfl; skip)
          | ((with_reducible apply wpList_buildArr kE46 ([] : List Nd) HH.out); rfl; rfl; (exact (by decide)); rfl; (intro g_ w_ hq_; clear HH; have HH := hid hq_; clear hq_))
          | ((with_reducible apply wpL_appendA (n := 0) (l := ([] : List Nd)) (l2 := l) (r := l) kE46 HH.out (HH.out.sl HL.out) (List.nil_append l)); rfl; rfl; (exact (by simp; omega)); rfl; rfl; rfl; (intro ao1 cap1 w_ hq_; clear HH; have HH := hid hq_; clear hq_))
          | ((with_reducible apply wpL_nilCheck); rfl; rfl)
          | ((with_reducible apply wpL_move); rfl; rfl)
          | ((with_reducible apply wpL_assign); rfl; rfl)
          | ((with_reducible apply wpL_pick); rfl; rfl; rfl)
          | ((with_reducible apply wpL_not); rfl; rfl)
          | ((with_reducible apply wpL_cmp (b := true)); rfl; rfl; rfl; (first | rfl | assumption | (simp only [cmpB, decide_eq_true_eq, decide_eq_false_iff_not, beq_iff_eq, bne_iff_ne, ne_eq, beq_eq_false_iff_ne, bne_eq_false_iff_eq, gt_iff_lt, ge_iff_le]; omega) | (simp; omega)); rfl)
          | ((with_reducible apply wpL_cmp (b := false)); rfl; rfl; rfl; (first | rfl | assumption | (simp only [cmpB, decide_eq_true_eq, decide_eq_false_iff_not, beq_iff_eq, bne_iff_ne, ne_eq, beq_eq_false_iff_ne, bne_eq_false_iff_eq, gt_iff_lt, ge_iff_le]; omega) | (simp; omega)); rfl)
          | ((with_reducible apply wpL_cmp); rfl; rfl; rfl; rfl; rfl)
          | ((with_reducible apply wpL_arith); rfl; rfl; rfl; (exact IntWalk.i64_in _ (by (try simp only [arithI]); omega)); rfl)); (try simp only [arithI, Act.put, Act.eval, List.setIfInBounds_toArray, List.set_cons_succ, List.set_cons_zero, Array.getD_eq_getD_getElem?, List.getElem?_toArray, List.getElem?_cons_succ, List.getElem?_cons_zero, Option.getD_some])))
    go_ret
    exact ⟨_, _, rfl, HH.out.own0, HH.out.below⟩
end Go.Proofs.Ytgkfopodhikckaa

/- levels of merkle. Condition: 2^h leaves, h at most 10. -/
namespace Go.Proofs.Ytgkfopodhikckaa
open Go.RowKit
attribute [local irreducible] wpQuiet wpList
theorem Holds.third {w0 w : World} {S : List Nat} {bs : List (Nat × Obj)} {r1 r2 r3 : Row} {rows : List Row} (h : Holds w0 S bs (r1 :: r2 :: r3 :: rows) w) : Holds w0 S bs (r3 :: r1 :: r2 :: rows) w :=
  h.perm (List.perm_middle (l₁ := [r1, r2]))
/-- A slice of lists of nodes that is read. -/
def Lvs (w : World) (v : Value) (ls : List (List Nd)) : Prop :=
  ∃ cs, Sl w v 1 ls.length cs ∧ ∀ i, i < ls.length → ∃ ao cap, cs[i]? = some (.slice ao (ls.getD i []).length cap) ∧ Arrs w (.slice ao (ls.getD i []).length cap) (ls.getD i [])
def RetLv (w : World) (ls : List (List Nd)) (e : Ending) (w' : World) : Prop :=
  ∃ ao cap, e = .returned (.slice ao ls.length cap) ∧ Below w.heap.size w w' ∧ Lvs w' (.slice ao ls.length cap) ls
/-- The levels of a tree of 2^h leaves. -/
def levelsL (l : List Nd) (h : Nat) : List (List Nd) := (List.range (h + 1)).map (levAt l)
/-- The rows of the first m levels. -/
def LvRows (l : List Nd) (m : Nat) (vs : List Value) (rs : List Row) : Prop :=
  vs.length = m ∧ (∀ u ∈ vs, u.oneCell' = true) ∧ ∀ i, i < m → ∃ ao cap, vs[i]? = some (.slice ao (levAt l i).length cap) ∧ rowA 34 ao cap (levAt l i) ∈ rs
theorem LvRows.next {l : List Nd} {m : Nat} {vs : List Value} {rs : List Row} (h : LvRows l m vs rs) (ao : Option Addr) (cap : Nat) : LvRows l (m + 1) (vs ++ [.slice ao (levAt l m).length cap]) (rowA 34 ao cap (levAt l m) :: rs) := by
  refine ⟨by simp [h.1], ?_, fun i hi => ?_⟩
  · intro u hu
    rcases List.mem_append.1 hu with hu | hu
    · exact h.2.1 u hu
    · simp at hu; subst hu; rfl
  · by_cases him : i = m
    · subst him
      exact ⟨ao, cap, by rw [List.getElem?_append_right (by rw [h.1]; exact Nat.le_refl _), h.1]; simp, List.mem_cons_self⟩
    · obtain ⟨a, c, h1, h2⟩ := h.2.2 i (by omega)
      exact ⟨a, c, by rw [List.getElem?_append_left (by rw [h.1]; omega)]; exact h1, List.mem_cons_of_mem _ h2⟩
theorem LvRows.lvs {w w0 : World} {S : List Nat} {bs : List (Nat × Obj)} {l : List Nd} {h : Nat} {vs : List Value} {rs : List Row} {ao : Option Addr} {cap : Nat} (H : LvRows l (h + 1) vs rs) (hH : Holds w0 S bs (⟨.slice ao (h + 1) cap, 46, 1, h + 1, vs⟩ :: rs) w) :
    Lvs w (.slice ao (levelsL l h).length cap) (levelsL l h) := by
  have hl : (levelsL l h).length = h + 1 := by simp [levelsL]
  rw [hl]
  refine ⟨vs, by rw [hl]; exact hH.sl0, fun i hi => ?_⟩
  rw [hl] at hi
  have e : (levelsL l h).getD i [] = levAt l i := by simp [levelsL, List.getD, hi]
  rw [e]
  obtain ⟨a, c, h1, h2⟩ := H.2.2 i hi
  exact ⟨a, c, h1, hH.slrow (List.mem_cons_of_mem _ h2)⟩
theorem RetLv.of {w w' : World} {l : List Nd} {h : Nat} {vs : List Value} {rs : List Row} {ao : Option Addr} {cap : Nat} (H : LvRows l (h + 1) vs rs) (hH : Holds w [] [] (⟨.slice ao (h + 1) cap, 46, 1, h + 1, vs⟩ :: rs) w') : RetLv w (levelsL l h) (.returned (.slice ao (h + 1) cap)) w' := by
  have hl : (levelsL l h).length = h + 1 := by simp [levelsL]
  exact ⟨ao, cap, by rw [hl], hH.below, H.lvs hH⟩
section
variable {w0 w : World} {S : List Nat} {bs : List (Nat × Obj)} {rows : List Row} {ops : Array Oper} {rest : List Oper} {a : Act} {Q : Exit → Act → World → Prop} {dst : Option Tmp} {ty : TypeId} {pos : String} {after : Array Edge} {guard : Option (Nat × Bool)}
theorem wpL_buildV1 (v : Value) (h1 : v.cells = #[v]) {parts : Array (Nat × Operand)} (hp : (parts.toList.map fun p => (p.1, a.eval p.2)) = [(0, v)]) (hH : Holds w0 S bs rows w)
    (hg : Region.wanted { dst := dst, op := .buildSlice 125 1 parts, type := ty, pos := pos, after := after, guard := guard } (yielded ops a.tmps) = true)
    (h : ∀ g w', Holds w0 S bs (⟨.slice (some ⟨g, 0, none⟩) 1 1, 46, 1, 1, [v]⟩ :: rows) w' → wpList Try.prog ops Q rest (a.put dst (.slice (some ⟨g, 0, none⟩) 1 1)) w') :
    wpList Try.prog ops Q ({ dst := dst, op := .buildSlice 125 1 parts, type := ty, pos := pos, after := after, guard := guard } :: rest) a w :=
  wpList_buildSlice kE125 [v] (by intro u hu; simp only [List.mem_cons, List.not_mem_nil, or_false] at hu; subst hu; simp [h1]) (by simp) rfl hp hH (xs := [v]) (by simp [h1]) hg h
theorem wpL_appendV {ao ax : Option Addr} {ca cx n : Nat} {vs : List Value} {v : Value} (hH : Holds w0 S bs (⟨.slice ao n ca, 46, 1, n, vs⟩ :: rows) w) (hx : Sl w (.slice ax 1 cx) 1 1 [v]) (h1 : v.oneCell' = true) (hb : n ≤ 100) {s y : Operand} (hs : a.eval s = .slice ao n ca) (hy : a.eval y = .slice ax 1 cx)
    (hg : Region.wanted { dst := dst, op := .call { callee := .builtin .append, args := #[s, y], argTypes := #[125, 125] }, type := ty, pos := pos, after := after, guard := guard } (yielded ops a.tmps) = true)
    (h : ∀ ao cap w', Holds w0 S bs (⟨.slice ao (n + 1) cap, 46, 1, n + 1, vs ++ [v]⟩ :: rows) w' → wpList Try.prog ops Q rest (a.put dst (.slice ao (n + 1) cap)) w') :
    wpList Try.prog ops Q ({ dst := dst, op := .call { callee := .builtin .append, args := #[s, y], argTypes := #[125, 125] }, type := ty, pos := pos, after := after, guard := guard } :: rest) a w :=
  wpList_append kE125 hH hx (by intro u hu; simp at hu; subst hu; exact h1) (by omega) hs hy hg h
end
def LvRel1 (w : World) (l : List Nd) (h : Nat) (v i : Value) (wr : World) : Prop :=
  ∃ (k : Nat) (vs : List Value) (rs : List Row) (ao : Option Addr) (cap : Nat), k ≤ h ∧ i = .int .i64 ((k + 1 : Nat) : Int) ∧ v = .slice ao (k + 1) cap ∧ LvRows l (k + 1) vs rs ∧ Holds w [] [] (⟨.slice ao (k + 1) cap, 46, 1, k + 1, vs⟩ :: rs) wr
def LvRel2 (w : World) (m : List Nd) (rows : List Row) (v i : Value) (wr : World) : Prop :=
  ∃ (j : Nat) (r : List Nd) (ao : Option Addr) (cap : Nat), j ≤ m.length ∧ i = .int .i64 ((2 * j : Nat) : Int) ∧ r = m.take j ∧ v = .slice ao r.length cap ∧ Holds w [] [] (rowA 34 ao cap r :: rows) wr
set_option maxRecDepth 100000 in
set_option maxHeartbeats 4000000 in
theorem levels_any (w : World) (v : Value) (l : List Nd) (h : Nat) (hl : Arrs w v l) (hh : h ≤ 10) (hn : l.length = 2 ^ h) : Calls Try.prog 68 #[v] w (RetLv w (levelsL l h)) := by
  obtain ⟨ao, cap, rfl, _⟩ := hl.shape
  have HL := hid hl
  have hp10 : 2 ^ h ≤ 1024 := Nat.le_trans (Nat.pow_le_pow_right (by decide) hh) (by decide)
  have HN := hid hn
  have HCL := hid (show l.length ≤ 1000000000 by omega)
  clear hl hn
  have HH := hid (Holds.init w)
  go_enter Try.func68, Try.ntmps68
  go_wp2_with (first
    | ((first
        | ((with_reducible apply wpL_skip); rfl; skip)
        | (go_at_call 82; (with_reducible refine (cloneN_any _ _ l (HH.out.sl HL.out) HCL.out).mono ?_); rintro e_ w2_ ⟨ao0, cap0, rfl, hr_, hb_⟩; (have hq_ := HH.out.addRow hb_ hr_); clear HH; have HH := hid hq_; clear hq_ hr_ hb_)
        | ((with_reducible apply wpL_buildV1 (.slice ao0 l.length cap0) rfl); rfl; (exact HH.out); rfl; (intro g_ w_ hq_; clear HH; have HH := hid hq_; clear hq_))
        | ((with_reducible apply wpL_nilCheck); rfl; rfl)
        | ((with_reducible apply wpL_loadArr (t := 34) kA34 HH.out); rfl; (first | exact .here | exact .there .here | exact .there (.there .here) | exact .there (.there (.there .here)) | exact .there (.there (.there (.there .here))) | exact .there (.there (.there (.there (.there .here)))) | exact .there (.there (.there (.there (.there (.there .here))))) | exact .there (.there (.there (.there (.there (.there (.there .here))))))); rfl)
        | ((with_reducible apply wpL_loadC (t := 34) kA34 HH.out); rfl; (first | exact .here | exact .there .here | exact .there (.there .here) | exact .there (.there (.there .here)) | exact .there (.there (.there (.there .here))) | exact .there (.there (.there (.there (.there .here)))) | exact .there (.there (.there (.there (.there (.there .here))))) | exact .there (.there (.there (.there (.there (.there (.there .here))))))); (first | rfl | exact Arr.len _ | (simp; done)); rfl)
        | ((with_reducible apply wpL_load1 (t := 46) kO46 HH.out); rfl; (first | exact .here | exact .there .here | exact .there (.there .here) | exact .there (.there (.there .here)) | exact .there (.there (.there (.there .here))) | exact .there (.there (.there (.there (.there .here)))) | exact .there (.there (.there (.there (.there (.there .here))))) | exact .there (.there (.there (.there (.there (.there (.there .here))))))); rfl; rfl)
        | ((with_reducible apply wpL_len (t := 46) Try.underlying46); rfl; rfl)
        | ((with_reducible apply wpL_len (t := 125) Try.underlying125); rfl; rfl)
        | ((with_reducible apply wpL_move); rfl; rfl)
        | ((with_reducible apply wpL_assign); rfl; rfl)
        | ((with_reducible apply wpL_pick); rfl; rfl; rfl)
        | ((with_reducible apply wpL_not); rfl; rfl)
        | ((with_reducible apply wpL_cmp (b := true)); rfl; rfl; rfl; (first | rfl | assumption | (simp only [cmpB, decide_eq_true_eq, decide_eq_false_iff_not, beq_iff_eq, bne_iff_ne, ne_eq, beq_eq_false_iff_ne, bne_eq_false_iff_eq, gt_iff_lt, ge_iff_le]; omega) | (simp; omega)); rfl)
        | ((with_reducible apply wpL_cmp (b := false)); rfl; rfl; rfl; (first | rfl | assumption | (simp only [cmpB, decide_eq_true_eq, decide_eq_false_iff_not, beq_iff_eq, bne_iff_ne, ne_eq, beq_eq_false_iff_ne, bne_eq_false_iff_eq, gt_iff_lt, ge_iff_le]; omega) | (simp; omega)); rfl)
        | ((with_reducible apply wpL_cmp); rfl; rfl; rfl; rfl; rfl)
        | ((with_reducible apply wpL_arith); rfl; rfl; rfl; (exact IntWalk.i64_in _ (by (try simp only [arithI]); omega)); rfl)); (try simp only [arithI, Act.put, Act.eval, List.setIfInBounds_toArray, List.set_cons_succ, List.set_cons_zero, Array.getD_eq_getD_getElem?, List.getElem?_toArray, List.getElem?_cons_succ, List.getElem?_cons_zero, Option.getD_some])))
  go_loopw [3, 4] (LvRel1 w l h) (fun _ i _ => h + 1 - (intOf i).toNat)
  case atStart =>
    refine ⟨0, [.slice ao0 l.length cap0], [rowA 34 ao0 cap0 l], _, _, Nat.zero_le _, rfl, rfl, ⟨rfl, ?_, ?_⟩, HH.out⟩
    · intro u hu; simp at hu; subst hu; rfl
    · intro i hi
      obtain rfl : i = 0 := by omega
      exact ⟨ao0, cap0, rfl, List.mem_cons_self⟩
  case round =>
    obtain ⟨k, vs, rs, ao1, cap1, hk, rfl, rfl, hlv, hr⟩ := hrel
    clear HH
    have HH := hid hr
    have HLV := hid hlv
    have HLN := hid (levAt_len HN.out k hk)
    obtain ⟨aob, capb, hvk, hmem⟩ := hlv.2.2 k (by omega)
    have HVK := hid hvk
    have HMEM := hid hmem
    obtain ⟨b, hb⟩ : ∃ b, levAt l k = b := ⟨_, rfl⟩
    have HB := hid hb
    rw [hb] at HLN HVK HMEM
    obtain ⟨n, hbn⟩ : ∃ n, b.length = n := ⟨_, rfl⟩
    have HBN := hid hbn
    rw [hbn] at HLN HVK
    have hnb : n ≤ 1024 := by
      have := HLN.out
      rw [this]
      exact Nat.le_trans (Nat.pow_le_pow_right (by decide) (show h - k ≤ 10 by omega)) (by decide)
    clear hr hlv hvk hmem hb hbn
    have hn1 : 1 ≤ n := by rw [HLN.out]; exact Nat.two_pow_pos _
    obtain ⟨ad, c', e⟩ := (show Sl wr (.slice aob b.length capb) 16 b.length (flat b) from HH.out.slrow (List.mem_cons_of_mem _ HMEM.out)).some (by rw [HBN.out]; omega)
    simp only [Value.slice.injEq] at e
    obtain ⟨rfl, -, -⟩ := e
    obtain ⟨adv, cv, e⟩ := HH.out.sl0.some (by omega)
    simp only [Value.slice.injEq] at e
    obtain ⟨rfl, -, -⟩ := e
    by_cases hkh : k < h
    · obtain ⟨q, hq⟩ : ∃ q, 2 ^ (h - k - 1) = q := ⟨_, rfl⟩
      have hnq : n = 2 * q := by rw [HLN.out, ← hq, show h - k = (h - k - 1) + 1 by omega, Nat.pow_succ, Nat.add_sub_cancel]; omega
      have hq1 : 1 ≤ q := by rw [← hq]; exact Nat.two_pow_pos _
      have HUL := hid (show (upL (k + 1) b).length = q from upL_len _ _ _ (by rw [HBN.out]; exact hnq))
      clear hq
      go_wp2_with (first
        | ((first
            | ((with_reducible apply wpL_skip); rfl; skip)
            | ((with_reducible apply wpL_idxB (j := k) kE125); rfl; rfl; (exact (by omega)); (exact (by omega)); rfl)
            | ((with_reducible apply wpL_loadAt (t := 46) (v := .slice (some ad) n capb) kO46); (have hc_ := HH.out.sl0.cell k (.slice (some ad) n capb) HVK.out; exact hc_); rfl; rfl)
            | ((with_reducible apply wpL_nilCheck); rfl; rfl)
            | ((with_reducible apply wpL_loadArr (t := 34) kA34 HH.out); rfl; (first | exact .here | exact .there .here | exact .there (.there .here) | exact .there (.there (.there .here)) | exact .there (.there (.there (.there .here))) | exact .there (.there (.there (.there (.there .here)))) | exact .there (.there (.there (.there (.there (.there .here))))) | exact .there (.there (.there (.there (.there (.there (.there .here))))))); rfl)
            | ((with_reducible apply wpL_loadC (t := 34) kA34 HH.out); rfl; (first | exact .here | exact .there .here | exact .there (.there .here) | exact .there (.there (.there .here)) | exact .there (.there (.there (.there .here))) | exact .there (.there (.there (.there (.there .here)))) | exact .there (.there (.there (.there (.there (.there .here))))) | exact .there (.there (.there (.there (.there (.there (.there .here))))))); (first | rfl | exact Arr.len _ | (simp; done)); rfl)
            | ((with_reducible apply wpL_load1 (t := 46) kO46 HH.out); rfl; (first | exact .here | exact .there .here | exact .there (.there .here) | exact .there (.there (.there .here)) | exact .there (.there (.there (.there .here))) | exact .there (.there (.there (.there (.there .here)))) | exact .there (.there (.there (.there (.there (.there .here))))) | exact .there (.there (.there (.there (.there (.there (.there .here))))))); rfl; rfl)
            | ((with_reducible apply wpL_len (t := 46) Try.underlying46); rfl; rfl)
            | ((with_reducible apply wpL_len (t := 125) Try.underlying125); rfl; rfl)
            | ((with_reducible apply wpL_move); rfl; rfl)
            | ((with_reducible apply wpL_assign); rfl; rfl)
            | ((with_reducible apply wpL_pick); rfl; rfl; rfl)
            | ((with_reducible apply wpL_not); rfl; rfl)
            | ((with_reducible apply wpL_cmp (b := true)); rfl; rfl; rfl; (first | rfl | assumption | (simp only [cmpB, decide_eq_true_eq, decide_eq_false_iff_not, beq_iff_eq, bne_iff_ne, ne_eq, beq_eq_false_iff_ne, bne_eq_false_iff_eq, gt_iff_lt, ge_iff_le]; omega) | (simp; omega)); rfl)
            | ((with_reducible apply wpL_cmp (b := false)); rfl; rfl; rfl; (first | rfl | assumption | (simp only [cmpB, decide_eq_true_eq, decide_eq_false_iff_not, beq_iff_eq, bne_iff_ne, ne_eq, beq_eq_false_iff_ne, bne_eq_false_iff_eq, gt_iff_lt, ge_iff_le]; omega) | (simp; omega)); rfl)
            | ((with_reducible apply wpL_cmp); rfl; rfl; rfl; rfl; rfl)
            | ((with_reducible apply wpL_arith); rfl; rfl; rfl; (exact IntWalk.i64_in _ (by (try simp only [arithI]); omega)); rfl)); (try simp only [arithI, Act.put, Act.eval, List.setIfInBounds_toArray, List.set_cons_succ, List.set_cons_zero, Array.getD_eq_getD_getElem?, List.getElem?_toArray, List.getElem?_cons_succ, List.getElem?_cons_zero, Option.getD_some])))
      go_loopw [6, 7] (LvRel2 w (upL (k + 1) b) (⟨.slice (some adv) (k + 1) cap1, 46, 1, k + 1, vs⟩ :: rs)) (fun _ i _ => n - (intOf i).toNat)
      case atStart => exact ⟨0, [], none, 0, Nat.zero_le _, rfl, by simp, rfl, HH.out.addNil 34 16⟩
      case round =>
        obtain ⟨j, r, ao2, cap2, hj, rfl, hrj, rfl, hr⟩ := hrel
        clear HH
        have HH := hid hr
        have HRJ := hid hrj
        rw [HUL.out] at hj
        have hrl : r.length = j := by rw [hrj, List.length_take, HUL.out]; omega
        clear hr hrj
        by_cases hjq : j < q
        · have h2j : 2 * j < b.length := by rw [HBN.out]; omega
          have h2j1 : 2 * j + 1 < b.length := by rw [HBN.out]; omega
          have hub := upL_get (k + 1) b j h2j1
          have ex : b.getD (2 * j) Nd0 = b[2 * j] := by simp [h2j]
          have ey : b.getD (2 * j + 1) Nd0 = b[2 * j + 1] := by simp [h2j1]
          rw [ex, ey] at hub
          have HGX0 : ∀ w1, Holds w [] [] (rowA 34 ao2 cap2 r :: ⟨.slice (some adv) (k + 1) cap1, 46, 1, k + 1, vs⟩ :: rs) w1 → Arrs w1 (.slice (some ad) b.length capb) b := fun w1 h1 => h1.slrow (List.mem_cons_of_mem _ (List.mem_cons_of_mem _ HMEM.out))
          have HGX := hid (fun w1 h1 => Arrs.get (HGX0 w1 h1) (2 * j) h2j)
          have HGY := hid (fun w1 h1 => Arrs.get (HGX0 w1 h1) (2 * j + 1) h2j1)
          obtain ⟨x, hx⟩ : ∃ x, b[2 * j] = x := ⟨_, rfl⟩
          obtain ⟨y, hy⟩ : ∃ y, b[2 * j + 1] = y := ⟨_, rfl⟩
          rw [hx] at HGX hub
          rw [hy] at HGY hub
          obtain ⟨d, hd⟩ : ∃ d, joinN ((k + 1 : Nat) : Int) x y = d := ⟨_, rfl⟩
          have HD := hid hd
          rw [hd] at hub
          obtain ⟨r2, hr2⟩ : ∃ r2, r ++ [d] = r2 := ⟨_, rfl⟩
          have HR2 := hid hr2
          have HST := hid (show r2 = (upL (k + 1) b).take (j + 1) by
            have hju : j < (upL (k + 1) b).length := by rw [HUL.out]; exact hjq
            rw [List.getElem?_eq_getElem hju] at hub
            rw [← hr2, HRJ.out, ← List.take_append_getElem hju, Option.some.inj hub])
          clear hub ex ey HGX0 hx hy hd hr2
          go_wp2_with (first
            | ((first
                | ((with_reducible apply wpL_skip); rfl; skip)
                | ((with_reducible apply wpL_nilCheck); rfl; rfl)
                | ((with_reducible apply wpL_loadArr (t := 34) kA34 HH.out); rfl; (first | exact .here | exact .there .here | exact .there (.there .here) | exact .there (.there (.there .here)) | exact .there (.there (.there (.there .here))) | exact .there (.there (.there (.there (.there .here)))) | exact .there (.there (.there (.there (.there (.there .here))))) | exact .there (.there (.there (.there (.there (.there (.there .here))))))); rfl)
                | ((with_reducible apply wpL_loadC (t := 34) kA34 HH.out); rfl; (first | exact .here | exact .there .here | exact .there (.there .here) | exact .there (.there (.there .here)) | exact .there (.there (.there (.there .here))) | exact .there (.there (.there (.there (.there .here)))) | exact .there (.there (.there (.there (.there (.there .here))))) | exact .there (.there (.there (.there (.there (.there (.there .here))))))); (first | rfl | exact Arr.len _ | (simp; done)); rfl)
                | ((with_reducible apply wpL_load1 (t := 46) kO46 HH.out); rfl; (first | exact .here | exact .there .here | exact .there (.there .here) | exact .there (.there (.there .here)) | exact .there (.there (.there (.there .here))) | exact .there (.there (.there (.there (.there .here)))) | exact .there (.there (.there (.there (.there (.there .here))))) | exact .there (.there (.there (.there (.there (.there (.there .here))))))); rfl; rfl)
                | ((with_reducible apply wpL_len (t := 46) Try.underlying46); rfl; rfl)
                | ((with_reducible apply wpL_len (t := 125) Try.underlying125); rfl; rfl)
                | ((with_reducible apply wpL_move); rfl; rfl)
                | ((with_reducible apply wpL_assign); rfl; rfl)
                | ((with_reducible apply wpL_pick); rfl; rfl; rfl)
                | ((with_reducible apply wpL_not); rfl; rfl)
                | ((with_reducible apply wpL_cmp (b := true)); rfl; rfl; rfl; (first | rfl | assumption | (simp only [cmpB, decide_eq_true_eq, decide_eq_false_iff_not, beq_iff_eq, bne_iff_ne, ne_eq, beq_eq_false_iff_ne, bne_eq_false_iff_eq, gt_iff_lt, ge_iff_le]; omega) | (simp; omega)); rfl)
                | ((with_reducible apply wpL_cmp (b := false)); rfl; rfl; rfl; (first | rfl | assumption | (simp only [cmpB, decide_eq_true_eq, decide_eq_false_iff_not, beq_iff_eq, bne_iff_ne, ne_eq, beq_eq_false_iff_ne, bne_eq_false_iff_eq, gt_iff_lt, ge_iff_le]; omega) | (simp; omega)); rfl)
                | ((with_reducible apply wpL_cmp); rfl; rfl; rfl; rfl; rfl)
                | ((with_reducible apply wpL_arith); rfl; rfl; rfl; (exact IntWalk.i64_in _ (by (try simp only [arithI]); omega)); rfl)); (try simp only [arithI, Act.put, Act.eval, List.setIfInBounds_toArray, List.set_cons_succ, List.set_cons_zero, Array.getD_eq_getD_getElem?, List.getElem?_toArray, List.getElem?_cons_succ, List.getElem?_cons_zero, Option.getD_some])))
          refine wp_region_tailR 13 [Asr.is (.slice ao2 r.length cap2), Asr.is (.int .i64 ((k + 1 : Nat) : Int)), Asr.is (.slice (some ad) n capb), Asr.is (.int .i64 ((2 * j : Nat) : Int)), Asr.is (.pointer (some (ad.add (2 * j * 16)))), Asr.is x.val, Asr.is (.slice (some ad) n capb), Asr.is (.int .i64 ((2 * j : Nat) : Int)), Asr.is (.int .i64 ((2 * j + 1 : Nat) : Int)), Asr.is (.pointer (some (ad.add ((2 * j + 1) * 16)))), Asr.is y.val, Asr.is d.val, Asr.full wr.heap.size 34 16 1 (flat [d])] HH.out (by kernel_rfl) (by kernel_rfl) (by kernel_rfl) rfl ?_ ?_
          all_goals simp only [List.take_succ_cons, List.take_zero, List.drop_succ_cons, List.drop_zero]
          · refine eachD_cons ?_ (eachD_cons ?_ (eachD_cons ?_ (eachD_cons ?_ (eachD_cons ?_ (eachD_cons ?_ (eachD_cons ?_ (eachD_cons ?_ (eachD_cons ?_ (eachD_cons ?_ (eachD_cons ?_ (eachD_cons ?_ (eachD_cons ?_ (eachD_nil)))))))))))))
            · intro a_ w1 hI hF hS
              have e6 : a_.eval (.tmp 6) = (.slice ao2 r.length cap2) := (hF.2.2 6 (notDst_of (by kernel_rfl))).trans rfl
              refine wantD (by rfl) ?_
              exact op_val rfl (ex_move rfl w1) e6
            · intro a_ w1 hI hF hS
              have e4 : a_.eval (.tmp 4) = (.int .i64 ((k + 1 : Nat) : Int)) := (hF.2.2 4 (notDst_of (by kernel_rfl))).trans rfl
              refine wantD (by rfl) ?_
              exact op_val rfl (ex_move rfl w1) e4
            · intro a_ w1 hI hF hS
              have e5 : a_.eval (.tmp 5) = (.slice (some ad) n capb) := (hF.2.2 5 (notDst_of (by kernel_rfl))).trans rfl
              refine wantD (by rfl) ?_
              exact op_val rfl (ex_move rfl w1) e5
            · intro a_ w1 hI hF hS
              have e7 : a_.eval (.tmp 7) = (.int .i64 ((2 * j : Nat) : Int)) := (hF.2.2 7 (notDst_of (by kernel_rfl))).trans rfl
              refine wantD (by rfl) ?_
              exact op_val rfl (ex_move rfl w1) e7
            · intro a_ w1 hI hF hS
              have e34 : a_.eval (.tmp 34) = (.slice (some ad) n capb) := hS ⟨2, .data⟩ (by simp) rfl _ rfl
              have e35 : a_.eval (.tmp 35) = (.int .i64 ((2 * j : Nat) : Int)) := hS ⟨3, .data⟩ (by simp) rfl _ rfl
              refine wantD (by rfl) ?_
              exact op_val rfl (ex_index kE46 (j := 2 * j) e34 e35 rfl (by omega) w1) rfl
            · intro a_ w1 hI hF hS
              have e36 : a_.eval (.tmp 36) = (.pointer (some (ad.add (2 * j * 16)))) := hS ⟨4, .data⟩ (by simp) rfl _ rfl
              refine wantD (by rfl) ?_
              exact op_val rfl (ex_load_agg (t := 34) (sz := 16) e36 Try.underlying34 rfl (by kernel_rfl) (Arr.len x) (HGX.out w1 hI.1)) rfl
            · intro a_ w1 hI hF hS
              have e5 : a_.eval (.tmp 5) = (.slice (some ad) n capb) := (hF.2.2 5 (notDst_of (by kernel_rfl))).trans rfl
              refine wantD (by rfl) ?_
              exact op_val rfl (ex_move rfl w1) e5
            · intro a_ w1 hI hF hS
              have e7 : a_.eval (.tmp 7) = (.int .i64 ((2 * j : Nat) : Int)) := (hF.2.2 7 (notDst_of (by kernel_rfl))).trans rfl
              refine wantD (by rfl) ?_
              exact op_val rfl (ex_move rfl w1) e7
            · intro a_ w1 hI hF hS
              have e39 : a_.eval (.tmp 39) = (.int .i64 ((2 * j : Nat) : Int)) := hS ⟨7, .data⟩ (by simp) rfl _ rfl
              refine wantD (by rfl) ?_
              exact op_val rfl (ex_arith (r := ((2 * j + 1 : Nat) : Int)) rfl e39 rfl (by show IntKind.i64.wrap (((2 * j : Nat) : Int) + 1) = _; rw [IntWalk.i64_in _ (by omega)]; omega) w1) rfl
            · intro a_ w1 hI hF hS
              have e38 : a_.eval (.tmp 38) = (.slice (some ad) n capb) := hS ⟨6, .data⟩ (by simp) rfl _ rfl
              have e40 : a_.eval (.tmp 40) = (.int .i64 ((2 * j + 1 : Nat) : Int)) := hS ⟨8, .data⟩ (by simp) rfl _ rfl
              refine wantD (by rfl) ?_
              exact op_val rfl (ex_index kE46 (j := 2 * j + 1) e38 e40 rfl (by omega) w1) rfl
            · intro a_ w1 hI hF hS
              have e41 : a_.eval (.tmp 41) = (.pointer (some (ad.add ((2 * j + 1) * 16)))) := hS ⟨9, .data⟩ (by simp) rfl _ rfl
              refine wantD (by rfl) ?_
              exact op_val rfl (ex_load_agg (t := 34) (sz := 16) e41 Try.underlying34 rfl (by kernel_rfl) (Arr.len y) (HGY.out w1 hI.1)) rfl
            · intro a_ w1 hI hF hS
              have e33 : a_.eval (.tmp 33) = (.int .i64 ((k + 1 : Nat) : Int)) := hS ⟨1, .data⟩ (by simp) rfl _ rfl
              have e37 : a_.eval (.tmp 37) = x.val := hS ⟨5, .data⟩ (by simp) rfl _ rfl
              have e42 : a_.eval (.tmp 42) = y.val := hS ⟨10, .data⟩ (by simp) rfl _ rfl
              refine wantD (by rfl) ?_
              exact op_call (args := #[.int .i64 ((k + 1 : Nat) : Int), x.val, y.val]) kB37 (by show #[a_.eval (.tmp 33), a_.eval (.tmp 37), a_.eval (.tmp 42)] = _; rw [e33, e37, e42]) ((join_any w1 _ x y).mono fun e w' ⟨he, hb⟩ => ⟨_, he, hb, by rw [HD.out]; rfl⟩)
            · intro a_ w1 hI hF hS
              have e43 : a_.eval (.tmp 43) = d.val := hS ⟨11, .data⟩ (by simp) rfl _ rfl
              refine wantD (by rfl) ?_
              obtain ⟨v_, w_, hr_, hb_, hA_⟩ := ex_buildArr (ρ := a_.eval) kE46 [d] (parts := #[(0, .tmp 43)]) (n := 1) rfl (by simp [e43]) (by decide) w1; exact op_new rfl hr_ hb_ (hA_ _ hI.2.size)
          intro wq hq_ hb_
          intro v0_ h0_ v1_ h1_ v2_ h2_ v3_ h3_ v4_ h4_ v5_ h5_ v6_ h6_ v7_ h7_ v8_ h8_ v9_ h9_ v10_ h10_ v11_ h11_ v12_ h12_
          have q_ : v0_ = (.slice ao2 r.length cap2) := h0_; clear h0_; subst q_
          have q_ : v1_ = (.int .i64 ((k + 1 : Nat) : Int)) := h1_; clear h1_; subst q_
          have q_ : v2_ = (.slice (some ad) n capb) := h2_; clear h2_; subst q_
          have q_ : v3_ = (.int .i64 ((2 * j : Nat) : Int)) := h3_; clear h3_; subst q_
          have q_ : v4_ = (.pointer (some (ad.add (2 * j * 16)))) := h4_; clear h4_; subst q_
          have q_ : v5_ = x.val := h5_; clear h5_; subst q_
          have q_ : v6_ = (.slice (some ad) n capb) := h6_; clear h6_; subst q_
          have q_ : v7_ = (.int .i64 ((2 * j : Nat) : Int)) := h7_; clear h7_; subst q_
          have q_ : v8_ = (.int .i64 ((2 * j + 1 : Nat) : Int)) := h8_; clear h8_; subst q_
          have q_ : v9_ = (.pointer (some (ad.add ((2 * j + 1) * 16)))) := h9_; clear h9_; subst q_
          have q_ : v10_ = y.val := h10_; clear h10_; subst q_
          have q_ : v11_ = d.val := h11_; clear h11_; subst q_
          have K12 := hid h12_; clear h12_
          simp only [endD, putsD, Act.put, List.setIfInBounds_toArray, List.set_cons_succ, List.set_cons_zero]
          have HQ := hid hq_; clear hq_
          have HB_ := hid hb_; clear hb_
          obtain ⟨ad3, c3, rfl⟩ := row_shape K12.out.2
          have hq2_ := HH.out.addRow HB_.out K12.out.2
          clear HH HQ K12 HB_
          have HH := hid hq2_
          clear hq2_
          go_wp2_with (first
            | ((first
                | ((with_reducible apply wpL_skip); rfl; skip)
                | ((with_reducible apply wpL_appendA (l := r) (l2 := [d]) (r := r2) kE46 HH.out.swap HH.out.sl0 HR2.out); rfl; rfl; (exact (by simp; omega)); rfl; rfl; rfl; (intro ao4 cap4 w_ hq_; clear HH; have HH := hid hq_.dropSnd; clear hq_))
                | ((with_reducible apply wpL_nilCheck); rfl; rfl)
                | ((with_reducible apply wpL_loadArr (t := 34) kA34 HH.out); rfl; (first | exact .here | exact .there .here | exact .there (.there .here) | exact .there (.there (.there .here)) | exact .there (.there (.there (.there .here))) | exact .there (.there (.there (.there (.there .here)))) | exact .there (.there (.there (.there (.there (.there .here))))) | exact .there (.there (.there (.there (.there (.there (.there .here))))))); rfl)
                | ((with_reducible apply wpL_loadC (t := 34) kA34 HH.out); rfl; (first | exact .here | exact .there .here | exact .there (.there .here) | exact .there (.there (.there .here)) | exact .there (.there (.there (.there .here))) | exact .there (.there (.there (.there (.there .here)))) | exact .there (.there (.there (.there (.there (.there .here))))) | exact .there (.there (.there (.there (.there (.there (.there .here))))))); (first | rfl | exact Arr.len _ | (simp; done)); rfl)
                | ((with_reducible apply wpL_load1 (t := 46) kO46 HH.out); rfl; (first | exact .here | exact .there .here | exact .there (.there .here) | exact .there (.there (.there .here)) | exact .there (.there (.there (.there .here))) | exact .there (.there (.there (.there (.there .here)))) | exact .there (.there (.there (.there (.there (.there .here))))) | exact .there (.there (.there (.there (.there (.there (.there .here))))))); rfl; rfl)
                | ((with_reducible apply wpL_len (t := 46) Try.underlying46); rfl; rfl)
                | ((with_reducible apply wpL_len (t := 125) Try.underlying125); rfl; rfl)
                | ((with_reducible apply wpL_move); rfl; rfl)
                | ((with_reducible apply wpL_assign); rfl; rfl)
                | ((with_reducible apply wpL_pick); rfl; rfl; rfl)
                | ((with_reducible apply wpL_not); rfl; rfl)
                | ((with_reducible apply wpL_cmp (b := true)); rfl; rfl; rfl; (first | rfl | assumption | (simp only [cmpB, decide_eq_true_eq, decide_eq_false_iff_not, beq_iff_eq, bne_iff_ne, ne_eq, beq_eq_false_iff_ne, bne_eq_false_iff_eq, gt_iff_lt, ge_iff_le]; omega) | (simp; omega)); rfl)
                | ((with_reducible apply wpL_cmp (b := false)); rfl; rfl; rfl; (first | rfl | assumption | (simp only [cmpB, decide_eq_true_eq, decide_eq_false_iff_not, beq_iff_eq, bne_iff_ne, ne_eq, beq_eq_false_iff_ne, bne_eq_false_iff_eq, gt_iff_lt, ge_iff_le]; omega) | (simp; omega)); rfl)
                | ((with_reducible apply wpL_cmp); rfl; rfl; rfl; rfl; rfl)
                | ((with_reducible apply wpL_arith); rfl; rfl; rfl; (exact IntWalk.i64_in _ (by (try simp only [arithI]); omega)); rfl)); (try simp only [arithI, Act.put, Act.eval, List.setIfInBounds_toArray, List.set_cons_succ, List.set_cons_zero, Array.getD_eq_getD_getElem?, List.getElem?_toArray, List.getElem?_cons_succ, List.getElem?_cons_zero, Option.getD_some])))
          go_roundw
          case rel => exact ⟨j + 1, r2, _, _, by rw [HUL.out]; omega, by go_num, HST.out, rfl, HH.out⟩
          case measure => simp [intOf]; omega
        · obtain rfl : j = q := by omega
          have hre : r = levAt l (k + 1) := by rw [HRJ.out, ← HUL.out, List.take_length, levAt, HB.out]
          have HNX := hid (HLV.out.next ao2 cap2)
          rw [← hre] at HNX
          clear hre
          go_wp2_with (first
            | ((first
                | ((with_reducible apply wpL_skip); rfl; skip)
                | ((with_reducible apply wpL_buildV1 (.slice ao2 r.length cap2) rfl); rfl; (exact HH.out); rfl; (intro g_ w_ hq_; clear HH; have HH := hid hq_; clear hq_))
                | ((with_reducible apply wpL_appendV (v := .slice ao2 r.length cap2) HH.out.third HH.out.sl0 rfl); (exact (by omega)); rfl; rfl; rfl; (intro ao4 cap4 w_ hq_; clear HH; have HH := hid (Holds.dropSnd hq_); clear hq_))
                | ((with_reducible apply wpL_nilCheck); rfl; rfl)
                | ((with_reducible apply wpL_loadArr (t := 34) kA34 HH.out); rfl; (first | exact .here | exact .there .here | exact .there (.there .here) | exact .there (.there (.there .here)) | exact .there (.there (.there (.there .here))) | exact .there (.there (.there (.there (.there .here)))) | exact .there (.there (.there (.there (.there (.there .here))))) | exact .there (.there (.there (.there (.there (.there (.there .here))))))); rfl)
                | ((with_reducible apply wpL_loadC (t := 34) kA34 HH.out); rfl; (first | exact .here | exact .there .here | exact .there (.there .here) | exact .there (.there (.there .here)) | exact .there (.there (.there (.there .here))) | exact .there (.there (.there (.there (.there .here)))) | exact .there (.there (.there (.there (.there (.there .here))))) | exact .there (.there (.there (.there (.there (.there (.there .here))))))); (first | rfl | exact Arr.len _ | (simp; done)); rfl)
                | ((with_reducible apply wpL_load1 (t := 46) kO46 HH.out); rfl; (first | exact .here | exact .there .here | exact .there (.there .here) | exact .there (.there (.there .here)) | exact .there (.there (.there (.there .here))) | exact .there (.there (.there (.there (.there .here)))) | exact .there (.there (.there (.there (.there (.there .here))))) | exact .there (.there (.there (.there (.there (.there (.there .here))))))); rfl; rfl)
                | ((with_reducible apply wpL_len (t := 46) Try.underlying46); rfl; rfl)
                | ((with_reducible apply wpL_len (t := 125) Try.underlying125); rfl; rfl)
                | ((with_reducible apply wpL_move); rfl; rfl)
                | ((with_reducible apply wpL_assign); rfl; rfl)
                | ((with_reducible apply wpL_pick); rfl; rfl; rfl)
                | ((with_reducible apply wpL_not); rfl; rfl)
                | ((with_reducible apply wpL_cmp (b := true)); rfl; rfl; rfl; (first | rfl | assumption | (simp only [cmpB, decide_eq_true_eq, decide_eq_false_iff_not, beq_iff_eq, bne_iff_ne, ne_eq, beq_eq_false_iff_ne, bne_eq_false_iff_eq, gt_iff_lt, ge_iff_le]; omega) | (simp; omega)); rfl)
                | ((with_reducible apply wpL_cmp (b := false)); rfl; rfl; rfl; (first | rfl | assumption | (simp only [cmpB, decide_eq_true_eq, decide_eq_false_iff_not, beq_iff_eq, bne_iff_ne, ne_eq, beq_eq_false_iff_ne, bne_eq_false_iff_eq, gt_iff_lt, ge_iff_le]; omega) | (simp; omega)); rfl)
                | ((with_reducible apply wpL_cmp); rfl; rfl; rfl; rfl; rfl)
                | ((with_reducible apply wpL_arith); rfl; rfl; rfl; (exact IntWalk.i64_in _ (by (try simp only [arithI]); omega)); rfl)); (try simp only [arithI, Act.put, Act.eval, List.setIfInBounds_toArray, List.set_cons_succ, List.set_cons_zero, Array.getD_eq_getD_getElem?, List.getElem?_toArray, List.getElem?_cons_succ, List.getElem?_cons_zero, Option.getD_some])))
          go_roundw
          case rel => exact ⟨k + 1, _, _, _, _, hkh, by go_num, rfl, HNX.out, HH.out⟩
          case measure => simp [intOf]; omega
    · obtain rfl : k = h := by omega
      have hn0 : n = 1 := by rw [HLN.out, Nat.sub_self]
      go_wp2_with (first
        | ((first
            | ((with_reducible apply wpL_skip); rfl; skip)
            | ((with_reducible apply wpL_idxB (j := k) kE125); rfl; rfl; (exact (by omega)); (exact (by omega)); rfl)
            | ((with_reducible apply wpL_loadAt (t := 46) (v := .slice (some ad) n capb) kO46); (have hc_ := HH.out.sl0.cell k (.slice (some ad) n capb) HVK.out; exact hc_); rfl; rfl)
            | ((with_reducible apply wpL_nilCheck); rfl; rfl)
            | ((with_reducible apply wpL_loadArr (t := 34) kA34 HH.out); rfl; (first | exact .here | exact .there .here | exact .there (.there .here) | exact .there (.there (.there .here)) | exact .there (.there (.there (.there .here))) | exact .there (.there (.there (.there (.there .here)))) | exact .there (.there (.there (.there (.there (.there .here))))) | exact .there (.there (.there (.there (.there (.there (.there .here))))))); rfl)
            | ((with_reducible apply wpL_loadC (t := 34) kA34 HH.out); rfl; (first | exact .here | exact .there .here | exact .there (.there .here) | exact .there (.there (.there .here)) | exact .there (.there (.there (.there .here))) | exact .there (.there (.there (.there (.there .here)))) | exact .there (.there (.there (.there (.there (.there .here))))) | exact .there (.there (.there (.there (.there (.there (.there .here))))))); (first | rfl | exact Arr.len _ | (simp; done)); rfl)
            | ((with_reducible apply wpL_load1 (t := 46) kO46 HH.out); rfl; (first | exact .here | exact .there .here | exact .there (.there .here) | exact .there (.there (.there .here)) | exact .there (.there (.there (.there .here))) | exact .there (.there (.there (.there (.there .here)))) | exact .there (.there (.there (.there (.there (.there .here))))) | exact .there (.there (.there (.there (.there (.there (.there .here))))))); rfl; rfl)
            | ((with_reducible apply wpL_len (t := 46) Try.underlying46); rfl; rfl)
            | ((with_reducible apply wpL_len (t := 125) Try.underlying125); rfl; rfl)
            | ((with_reducible apply wpL_move); rfl; rfl)
            | ((with_reducible apply wpL_assign); rfl; rfl)
            | ((with_reducible apply wpL_pick); rfl; rfl; rfl)
            | ((with_reducible apply wpL_not); rfl; rfl)
            | ((with_reducible apply wpL_cmp (b := true)); rfl; rfl; rfl; (first | rfl | assumption | (simp only [cmpB, decide_eq_true_eq, decide_eq_false_iff_not, beq_iff_eq, bne_iff_ne, ne_eq, beq_eq_false_iff_ne, bne_eq_false_iff_eq, gt_iff_lt, ge_iff_le]; omega) | (simp; omega)); rfl)
            | ((with_reducible apply wpL_cmp (b := false)); rfl; rfl; rfl; (first | rfl | assumption | (simp only [cmpB, decide_eq_true_eq, decide_eq_false_iff_not, beq_iff_eq, bne_iff_ne, ne_eq, beq_eq_false_iff_ne, bne_eq_false_iff_eq, gt_iff_lt, ge_iff_le]; omega) | (simp; omega)); rfl)
            | ((with_reducible apply wpL_cmp); rfl; rfl; rfl; rfl; rfl)
            | ((with_reducible apply wpL_arith); rfl; rfl; rfl; (exact IntWalk.i64_in _ (by (try simp only [arithI]); omega)); rfl)); (try simp only [arithI, Act.put, Act.eval, List.setIfInBounds_toArray, List.set_cons_succ, List.set_cons_zero, Array.getD_eq_getD_getElem?, List.getElem?_toArray, List.getElem?_cons_succ, List.getElem?_cons_zero, Option.getD_some])))
      go_ret
      exact RetLv.of HLV.out HH.out
end Go.Proofs.Ytgkfopodhikckaa

/- Rules on ints: exclusive or, shifts. No condition. -/
namespace Go.Proofs.Ytgkfopodhikckaa
open Go.RowKit
section
variable {P : Program} {ops : Array Oper} {rest : List Oper} {a : Act} {ρ : Operand → Value} {dst : Option Tmp} {ty : TypeId} {pos : String} {after : Array Edge} {guard : Option (Nat × Bool)} {C : World → Prop} {K : Act → Prop} {w : World} {Q : Exit → Act → World → Prop}
theorem ex_shrI {t yt : TypeId} {x y : Operand} {kk : IntKind} {p q : Int} {m k r : Nat} (hx : ρ x = .int .i64 p) (hy : ρ y = .int kk q) (hp : p = (m : Int)) (hq : q = (k : Int)) (hk : k < 64) (hr : m / 2 ^ k = r) (w : World) :
    (execOp ρ { dst := dst, op := .binOp .shr t x y yt, type := ty, pos := pos, after := after, guard := guard }).run P w = .ok (.value (.int .i64 (r : Int))) w := by
  subst hp hq hr
  have he : ∀ u v, eqGuard .shr t x y u v = pure () := fun _ _ => rfl
  have hr : (binOp .shr t (.int .i64 (m : Int)) (.int kk (k : Int))).run P w = .ok (.int .i64 ((m / 2 ^ k : Nat) : Int)) w := by
    show (Op.shift .shr .i64 (m : Int) kk (k : Int)).run P w = _
    have h0 : ¬ (k : Int) < 0 := by omega
    have h1 : min (k : Int).toNat IntKind.i64.bits = k := by
      have : IntKind.i64.bits = 64 := rfl
      omega
    simp only [Op.shift, h0, if_false, h1, Sem.run_pure]
    congr 2
    rw [Int.fdiv_eq_ediv_of_nonneg _ (by exact_mod_cast Nat.zero_le _)]
    norm_cast
  simp only [execOp, hx, hy, Sem.run_bind, he, Sem.run_pure, Result.andThen_ok, hr]
theorem wpL_shrI {t yt : TypeId} {x y : Operand} {kk : IntKind} {p q : Int} {m k r : Nat} (hx : a.eval x = .int .i64 p) (hy : a.eval y = .int kk q) (hp : p = (m : Int)) (hq : q = (k : Int)) (hk : k < 64) (hr : m / 2 ^ k = r)
    (hg : Region.wanted { dst := dst, op := .binOp .shr t x y yt, type := ty, pos := pos, after := after, guard := guard } (yielded ops a.tmps) = true)
    (h : wpList P ops Q rest (a.put dst (.int .i64 (r : Int))) w) : wpList P ops Q ({ dst := dst, op := .binOp .shr t x y yt, type := ty, pos := pos, after := after, guard := guard } :: rest) a w :=
  wpList_ex hg (ex_shrI (ρ := a.eval) hx hy hp hq hk hr w) h
/-- The sum 1 << k. -/
theorem ex_shlP {t yt : TypeId} {x y : Operand} {kk : IntKind} {p q : Int} {m k r : Nat} (hx : ρ x = .int .i64 p) (hy : ρ y = .int kk q) (hp : p = (m : Int)) (hq : q = (k : Int)) (hk : k < 64) (hr : m * 2 ^ k = r) (hw : IntKind.i64.wrap (r : Int) = (r : Int)) (w : World) :
    (execOp ρ { dst := dst, op := .binOp .shl t x y yt, type := ty, pos := pos, after := after, guard := guard }).run P w = .ok (.value (.int .i64 (r : Int))) w := by
  subst hp hq hr
  have he : ∀ u v, eqGuard .shl t x y u v = pure () := fun _ _ => rfl
  have hr : (binOp .shl t (.int .i64 (m : Int)) (.int kk (k : Int))).run P w = .ok (.int .i64 ((m * 2 ^ k : Nat) : Int)) w := by
    show (Op.shift .shl .i64 (m : Int) kk (k : Int)).run P w = _
    have h0 : ¬ (k : Int) < 0 := by omega
    have h1 : min (k : Int).toNat IntKind.i64.bits = k := by
      have : IntKind.i64.bits = 64 := rfl
      omega
    simp only [Op.shift, h0, if_false, h1, Sem.run_pure]
    rw [show ((m : Int) * 2 ^ k) = ((m * 2 ^ k : Nat) : Int) by push_cast; rfl, hw]
  simp only [execOp, hx, hy, Sem.run_bind, he, Sem.run_pure, Result.andThen_ok, hr]
theorem wpL_shlP {t yt : TypeId} {x y : Operand} {kk : IntKind} {p q : Int} {m k r : Nat} (hx : a.eval x = .int .i64 p) (hy : a.eval y = .int kk q) (hp : p = (m : Int)) (hq : q = (k : Int)) (hk : k < 64) (hr : m * 2 ^ k = r) (hw : IntKind.i64.wrap (r : Int) = (r : Int))
    (hg : Region.wanted { dst := dst, op := .binOp .shl t x y yt, type := ty, pos := pos, after := after, guard := guard } (yielded ops a.tmps) = true)
    (h : wpList P ops Q rest (a.put dst (.int .i64 (r : Int))) w) : wpList P ops Q ({ dst := dst, op := .binOp .shl t x y yt, type := ty, pos := pos, after := after, guard := guard } :: rest) a w :=
  wpList_ex hg (ex_shlP (ρ := a.eval) hx hy hp hq hk hr hw w) h
end
end Go.Proofs.Ytgkfopodhikckaa

/- Root, path, Path of merkle. Condition: at most 10^9 leaves. -/
namespace Go.Proofs.Ytgkfopodhikckaa
open Go.RowKit
attribute [local irreducible] wpQuiet wpList
/-- The levels as they lie. -/
def LvsAt (w : World) (v : Value) (l : List Nd) (h : Nat) : Prop :=
  ∃ ao cap cs, v = .slice (some ao) (h + 1) cap ∧ Sl w (.slice (some ao) (h + 1) cap) 1 (h + 1) cs ∧ ∀ i, i ≤ h → ∃ a c, cs[i]? = some (.slice (some a) (levAt l i).length c) ∧ Arrs w (.slice (some a) (levAt l i).length c) (levAt l i)
theorem RetLv.get {w w' : World} {l : List Nd} {h : Nat} {e : Ending} (hl : l.length = 2 ^ h) (H : RetLv w (levelsL l h) e w') : ∃ v, e = .returned v ∧ Below w.heap.size w w' ∧ LvsAt w' v l h := by
  obtain ⟨ao, cap, rfl, hb, cs, hs, hcs⟩ := H
  have hn : (levelsL l h).length = h + 1 := by simp [levelsL]
  rw [hn] at hs hcs ⊢
  obtain ⟨a0, c0, e0⟩ := hs.some (by omega)
  simp only [Value.slice.injEq] at e0
  obtain ⟨rfl, -, -⟩ := e0
  refine ⟨_, rfl, hb, a0, cap, cs, rfl, hs, fun i hi => ?_⟩
  obtain ⟨a, c, h1, h2⟩ := hcs i (by omega)
  have e : (levelsL l h).getD i [] = levAt l i := by simp [levelsL, List.getD, show i < h + 1 by omega]
  rw [e] at h1 h2
  have hp : 0 < (levAt l i).length := by rw [levAt_len hl i hi]; exact Nat.two_pow_pos _
  obtain ⟨a1, c1, e1⟩ := h2.some (by omega)
  simp only [Value.slice.injEq] at e1
  obtain ⟨rfl, -, -⟩ := e1
  exact ⟨a1, c, h1, h2⟩
theorem LvsAt.below {w w' : World} {v : Value} {l : List Nd} {h : Nat} (H : LvsAt w v l h) (hb : Below w.heap.size w w') : LvsAt w' v l h := by
  obtain ⟨ao, cap, cs, rfl, hs, hcs⟩ := H
  refine ⟨ao, cap, cs, rfl, hs.below hb, fun i hi => ?_⟩
  obtain ⟨a, c, h1, h2⟩ := hcs i hi
  exact ⟨a, c, h1, h2.below hb⟩
theorem LvsAt.holds {w0 w : World} {v : Value} {l : List Nd} {h : Nat} {bs : List (Nat × Obj)} {rows : List Row} (H : LvsAt w0 v l h) (hH : Holds w0 [] bs rows w) : LvsAt w v l h := by
  obtain ⟨ao, cap, cs, rfl, hs, hcs⟩ := H
  refine ⟨ao, cap, cs, rfl, hH.sl hs, fun i hi => ?_⟩
  obtain ⟨a, c, h1, h2⟩ := hcs i hi
  exact ⟨a, c, h1, hH.sl h2⟩
theorem get_as {n : Nat} {w : World} {a : Addr} {cap k : Nat} {l : List (Arr n)} {x : Arr n} (h : Arrs w (.slice (some a) l.length cap) l) (hk : k < l.length) (hx : l[k] = x) : ∀ j u, x.cells[j]? = some u → w.cell? ((a.add (k * n)).add j) = some u := by
  subst hx; exact Arrs.get h k hk
def rootN (l : List Nd) : Nd := (levAt l (Nat.log2 l.length)).getD 0 Nd0
def rootV (l : List Nd) : Nd := if checkC l.length = 0 then rootN l else Nd0
def RetR (w : World) (x : Nd) (c : Int) (e : Ending) (w' : World) : Prop := e = .returned (.tuple #[x.val, .int .i64 c]) ∧ Below w.heap.size w w'
theorem RetR.mk {w w' : World} {x y : Nd} {b c : Int} (hx : x = y) (h : b = c) (hb : Below w.heap.size w w') : RetR w y c (.returned (.tuple #[x.val, .int .i64 b])) w' := ⟨by rw [h, hx], hb⟩
theorem BZ34 (w : World) : (Instr.build 34 #[]).run Try.prog w = .ok Nd0.val w := by kernel_rfl
set_option maxRecDepth 100000 in
set_option maxHeartbeats 4000000 in
theorem root_any (w : World) (v : Value) (l : List Nd) (hl : Arrs w v l) (hn : l.length ≤ 1000000000) : Calls Try.prog 38 #[v] w (RetR w (rootV l) (checkC l.length)) := by
  obtain ⟨ao, cap, rfl, _⟩ := hl.shape
  have HL := hid hl
  have HN := hid hn
  clear hl
  have HH := hid (Holds.init w)
  obtain ⟨c, hc⟩ : ∃ c, checkC l.length = c := ⟨_, rfl⟩
  have HC := hid hc
  by_cases h0 : c = 0
  · obtain ⟨h, hh, hlh⟩ := check_pow (hc.trans h0)
    subst h0
    have hlog : Nat.log2 l.length = h := by rw [hlh, Nat.log2_two_pow]
    have h1 : (levAt l h).length = 1 := by rw [levAt_len hlh h (Nat.le_refl _), Nat.sub_self]
    obtain ⟨x, hx⟩ : ∃ x, (levAt l h).getD 0 Nd0 = x := ⟨_, rfl⟩
    have HX := hid (show ∀ pf : 0 < (levAt l h).length, (levAt l h)[0]'pf = x from fun pf => by rw [← hx]; simp [pf])
    have hr : rootV l = x := by unfold rootV rootN; rw [if_pos hc, hlog, hx]
    rw [hr, hc]
    have HLH := hid hlh
    have H1 := hid h1
    clear hr hlog hlh hc hx h1
    go_enter Try.func38, Try.ntmps38
    go_wp2_with (first
      | ((first
          | ((with_reducible apply wpL_skip); rfl; skip)
          | (go_at_call 67; (with_reducible refine (check_any _ _ l (HH.out.sl HL.out) hn).mono ?_); rw [HC.out]; rintro e_ w2_ ⟨rfl, hb_⟩; (have hq_ := HH.out.grow hb_); clear HH; have HH := hid hq_; clear hq_ hb_)
          | (go_at_call 68; (with_reducible refine (levels_any _ _ l h (HH.out.sl HL.out) hh HLH.out).mono ?_); intro e_ w2_ hq0_; obtain ⟨lv_, rfl, hb_, al, cl, cs, rfl, hs_, hcs_⟩ := hq0_.get HLH.out; obtain ⟨a0, c0, hi_, ha_⟩ := hcs_ h (Nat.le_refl _); clear hq0_ hcs_; rw [H1.out] at hi_; (have hq_ := HH.out.grow hb_); clear HH; have HH := hid hq_; have HCI := hid (hs_.cell h _ hi_); have HAR := hid (get_as ha_ (by rw [H1.out]; decide) (HX.out _)); clear hq_ hb_ hs_ hi_ ha_)
          | ((with_reducible apply wpL_idxB (j := h) kE125); rfl; rfl; (exact (by omega)); (exact (by omega)); rfl)
          | ((with_reducible apply wpL_loadAt (t := 46) (v := .slice (some a0) 1 c0) kO46 HCI.out); rfl; rfl)
          | ((with_reducible apply wpL_idx (j := 0) kE46); rfl; rfl; rfl; (exact (by decide)); rfl)
          | ((with_reducible apply wpL_loadEl (dst := some 21) (v := x) kA34 HAR.out); rfl; rfl)
          | ((with_reducible apply wpL_storeC (t := 34) (vs := x.cells)); rfl; rfl; (exact kS34); (exact HH.out); (exact .here); (exact Arr.len _); (exact cells_one _); (exact Arr.len _); rfl; (intro w_ hq_; clear HH; have HH := hid hq_; clear hq_))
          | ((with_reducible apply wpL_nilCheck); rfl; rfl)
          | ((with_reducible apply wpL_loadArr (t := 34) kA34 HH.out); rfl; (first | exact .here | exact .there .here | exact .there (.there .here) | exact .there (.there (.there .here)) | exact .there (.there (.there (.there .here))) | exact .there (.there (.there (.there (.there .here)))) | exact .there (.there (.there (.there (.there (.there .here))))) | exact .there (.there (.there (.there (.there (.there (.there .here))))))); rfl)
          | ((with_reducible apply wpL_loadC (t := 34) kA34 HH.out); rfl; (first | exact .here | exact .there .here | exact .there (.there .here) | exact .there (.there (.there .here)) | exact .there (.there (.there (.there .here))) | exact .there (.there (.there (.there (.there .here)))) | exact .there (.there (.there (.there (.there (.there .here))))) | exact .there (.there (.there (.there (.there (.there (.there .here))))))); (first | rfl | exact Arr.len _ | (simp; done)); rfl)
          | ((with_reducible apply wpL_load1 (t := 46) kO46 HH.out); rfl; (first | exact .here | exact .there .here | exact .there (.there .here) | exact .there (.there (.there .here)) | exact .there (.there (.there (.there .here))) | exact .there (.there (.there (.there (.there .here)))) | exact .there (.there (.there (.there (.there (.there .here))))) | exact .there (.there (.there (.there (.there (.there (.there .here))))))); rfl; rfl)
          | ((with_reducible apply wpL_len (t := 125) Try.underlying125); rfl; rfl)
          | ((with_reducible apply wpL_allocC (dst := some 2) kZ34 HH.out); rfl; (intro g2_ w_ hq_; (try simp only [List.set_cons_zero, List.set_cons_succ] at hq_); clear HH; have HH := hid hq_; clear hq_))
          | ((with_reducible apply wpL_storeArr (t := 34) kS34 HH.out); rfl; rfl; (first | exact .here | exact .there .here | exact .there (.there .here) | exact .there (.there (.there .here)) | exact .there (.there (.there (.there .here))) | exact .there (.there (.there (.there (.there .here)))) | exact .there (.there (.there (.there (.there (.there .here))))) | exact .there (.there (.there (.there (.there (.there (.there .here))))))); (first | rfl | exact Arr.len _ | (simp; done)); rfl; (intro w_ hq_; (try simp only [List.set_cons_zero, List.set_cons_succ] at hq_); clear HH; have HH := hid hq_; clear hq_))
          | ((with_reducible apply wpL_storeC (t := 34)); rfl; rfl; (exact kS34); (exact HH.out); (first | exact .here | exact .there .here | exact .there (.there .here) | exact .there (.there (.there .here)) | exact .there (.there (.there (.there .here))) | exact .there (.there (.there (.there (.there .here)))) | exact .there (.there (.there (.there (.there (.there .here))))) | exact .there (.there (.there (.there (.there (.there (.there .here))))))); (first | rfl | exact Arr.len _ | (simp; done)); (first | rfl | (intro u_ hu_; simp only [List.mem_cons, List.not_mem_nil, or_false] at hu_; rcases hu_ with rfl | hu_; rfl) | exact byt_cell1 _ | exact cells_one _ | exact wrd_one _ | exact flat_cell1 _); (first | rfl | exact Arr.len _ | (simp; done)); rfl; (intro w_ hq_; (try simp only [List.set_cons_zero, List.set_cons_succ] at hq_); clear HH; have HH := hid hq_; clear hq_))
          | ((with_reducible apply wpL_move); rfl; rfl)
          | ((with_reducible apply wpL_assign); rfl; rfl)
          | ((with_reducible apply wpL_pick); rfl; rfl; rfl)
          | ((with_reducible apply wpL_not); rfl; rfl)
          | ((with_reducible apply wpL_cmp (b := true)); rfl; rfl; rfl; (first | rfl | assumption | (simp only [cmpB, decide_eq_true_eq, decide_eq_false_iff_not, beq_iff_eq, bne_iff_ne, ne_eq, beq_eq_false_iff_ne, bne_eq_false_iff_eq, gt_iff_lt, ge_iff_le]; omega) | (simp; omega)); rfl)
          | ((with_reducible apply wpL_cmp (b := false)); rfl; rfl; rfl; (first | rfl | assumption | (simp only [cmpB, decide_eq_true_eq, decide_eq_false_iff_not, beq_iff_eq, bne_iff_ne, ne_eq, beq_eq_false_iff_ne, bne_eq_false_iff_eq, gt_iff_lt, ge_iff_le]; omega) | (simp; omega)); rfl)
          | ((with_reducible apply wpL_cmp); rfl; rfl; rfl; rfl; rfl)
          | ((with_reducible apply wpL_arith); rfl; rfl; rfl; (exact IntWalk.i64_in _ (by (try simp only [arithI]); omega)); rfl)); (try simp only [arithI, Act.put, Act.eval, List.setIfInBounds_toArray, List.set_cons_succ, List.set_cons_zero, Array.getD_eq_getD_getElem?, List.getElem?_toArray, List.getElem?_cons_succ, List.getElem?_cons_zero, Option.getD_some])))
    refine bodyPost_ret (res2 rfl (resC kA34 HH.out (by rfl) .here (Arr.len _)) (by rfl)) rfl ?_
    exact RetR.mk rfl rfl HH.out.below
  · have hr : rootV l = Nd0 := by unfold rootV; rw [if_neg (by rw [hc]; exact h0)]
    rw [hr, hc]
    have hcb : (c != 0) = true := by simpa using h0
    clear hr hc h0
    go_enter Try.func38, Try.ntmps38
    go_wp2_with (first
      | ((first
          | ((with_reducible apply wpL_skip); rfl; skip)
          | (go_at_call 67; (with_reducible refine (check_any _ _ l (HH.out.sl HL.out) hn).mono ?_); rw [HC.out]; rintro e_ w2_ ⟨rfl, hb_⟩; (have hq_ := HH.out.grow hb_); clear HH; have HH := hid hq_; clear hq_ hb_)
          | ((with_reducible apply wpList_build (parts := #[]) (v := Nd0.val)); (exact BZ34); rfl)
          | ((with_reducible apply wpL_storeC (t := 34) (vs := Nd0.cells)); rfl; rfl; (exact kS34); (exact HH.out); (exact .here); (exact Arr.len _); (exact cells_one _); (exact Arr.len _); rfl; (intro w_ hq_; clear HH; have HH := hid hq_; clear hq_))
          | ((with_reducible apply wpL_nilCheck); rfl; rfl)
          | ((with_reducible apply wpL_loadArr (t := 34) kA34 HH.out); rfl; (first | exact .here | exact .there .here | exact .there (.there .here) | exact .there (.there (.there .here)) | exact .there (.there (.there (.there .here))) | exact .there (.there (.there (.there (.there .here)))) | exact .there (.there (.there (.there (.there (.there .here))))) | exact .there (.there (.there (.there (.there (.there (.there .here))))))); rfl)
          | ((with_reducible apply wpL_loadC (t := 34) kA34 HH.out); rfl; (first | exact .here | exact .there .here | exact .there (.there .here) | exact .there (.there (.there .here)) | exact .there (.there (.there (.there .here))) | exact .there (.there (.there (.there (.there .here)))) | exact .there (.there (.there (.there (.there (.there .here))))) | exact .there (.there (.there (.there (.there (.there (.there .here))))))); (first | rfl | exact Arr.len _ | (simp; done)); rfl)
          | ((with_reducible apply wpL_load1 (t := 46) kO46 HH.out); rfl; (first | exact .here | exact .there .here | exact .there (.there .here) | exact .there (.there (.there .here)) | exact .there (.there (.there (.there .here))) | exact .there (.there (.there (.there (.there .here)))) | exact .there (.there (.there (.there (.there (.there .here))))) | exact .there (.there (.there (.there (.there (.there (.there .here))))))); rfl; rfl)
          | ((with_reducible apply wpL_len (t := 125) Try.underlying125); rfl; rfl)
          | ((with_reducible apply wpL_allocC (dst := some 2) kZ34 HH.out); rfl; (intro g2_ w_ hq_; (try simp only [List.set_cons_zero, List.set_cons_succ] at hq_); clear HH; have HH := hid hq_; clear hq_))
          | ((with_reducible apply wpL_storeArr (t := 34) kS34 HH.out); rfl; rfl; (first | exact .here | exact .there .here | exact .there (.there .here) | exact .there (.there (.there .here)) | exact .there (.there (.there (.there .here))) | exact .there (.there (.there (.there (.there .here)))) | exact .there (.there (.there (.there (.there (.there .here))))) | exact .there (.there (.there (.there (.there (.there (.there .here))))))); (first | rfl | exact Arr.len _ | (simp; done)); rfl; (intro w_ hq_; (try simp only [List.set_cons_zero, List.set_cons_succ] at hq_); clear HH; have HH := hid hq_; clear hq_))
          | ((with_reducible apply wpL_storeC (t := 34)); rfl; rfl; (exact kS34); (exact HH.out); (first | exact .here | exact .there .here | exact .there (.there .here) | exact .there (.there (.there .here)) | exact .there (.there (.there (.there .here))) | exact .there (.there (.there (.there (.there .here)))) | exact .there (.there (.there (.there (.there (.there .here))))) | exact .there (.there (.there (.there (.there (.there (.there .here))))))); (first | rfl | exact Arr.len _ | (simp; done)); (first | rfl | (intro u_ hu_; simp only [List.mem_cons, List.not_mem_nil, or_false] at hu_; rcases hu_ with rfl | hu_; rfl) | exact byt_cell1 _ | exact cells_one _ | exact wrd_one _ | exact flat_cell1 _); (first | rfl | exact Arr.len _ | (simp; done)); rfl; (intro w_ hq_; (try simp only [List.set_cons_zero, List.set_cons_succ] at hq_); clear HH; have HH := hid hq_; clear hq_))
          | ((with_reducible apply wpL_move); rfl; rfl)
          | ((with_reducible apply wpL_assign); rfl; rfl)
          | ((with_reducible apply wpL_pick); rfl; rfl; rfl)
          | ((with_reducible apply wpL_not); rfl; rfl)
          | ((with_reducible apply wpL_cmp (b := true)); rfl; rfl; rfl; (first | rfl | assumption | (simp only [cmpB, decide_eq_true_eq, decide_eq_false_iff_not, beq_iff_eq, bne_iff_ne, ne_eq, beq_eq_false_iff_ne, bne_eq_false_iff_eq, gt_iff_lt, ge_iff_le]; omega) | (simp; omega)); rfl)
          | ((with_reducible apply wpL_cmp (b := false)); rfl; rfl; rfl; (first | rfl | assumption | (simp only [cmpB, decide_eq_true_eq, decide_eq_false_iff_not, beq_iff_eq, bne_iff_ne, ne_eq, beq_eq_false_iff_ne, bne_eq_false_iff_eq, gt_iff_lt, ge_iff_le]; omega) | (simp; omega)); rfl)
          | ((with_reducible apply wpL_cmp); rfl; rfl; rfl; rfl; rfl)
          | ((with_reducible apply wpL_arith); rfl; rfl; rfl; (exact IntWalk.i64_in _ (by (try simp only [arithI]); omega)); rfl)); (try simp only [arithI, Act.put, Act.eval, List.setIfInBounds_toArray, List.set_cons_succ, List.set_cons_zero, Array.getD_eq_getD_getElem?, List.getElem?_toArray, List.getElem?_cons_succ, List.getElem?_cons_zero, Option.getD_some])))
    refine bodyPost_ret (res2 rfl (resC kA34 HH.out (by rfl) .here (Arr.len _)) (by rfl)) rfl ?_
    exact RetR.mk rfl rfl HH.out.below
end Go.Proofs.Ytgkfopodhikckaa

/- path, Path of merkle. Condition: at most 10^9 leaves. -/
namespace Go.Proofs.Ytgkfopodhikckaa
open Go.RowKit
attribute [local irreducible] wpQuiet wpList
def RetP (w : World) (r : List Nd) (c : Int) (e : Ending) (w' : World) : Prop :=
  ∃ ao cap, e = .returned (.tuple #[.slice ao r.length cap, .int .i64 c]) ∧ Below w.heap.size w w' ∧ Arrs w' (.slice ao r.length cap) r
theorem RetP.mk {w w' : World} {r s : List Nd} {ao : Option Addr} {b c : Int} {cap : Nat} (hr : r = s) (h : b = c) (hb : Below w.heap.size w w') (hl : Arrs w' (.slice ao r.length cap) r) : RetP w s c (.returned (.tuple #[.slice ao r.length cap, .int .i64 b])) w' := by
  subst hr h; exact ⟨ao, cap, rfl, hb, hl⟩
theorem RetP.no {w w' : World} {s : List Nd} {b c : Int} (hs : s = []) (h : b = c) (hb : Below w.heap.size w w') : RetP w s c (.returned (.tuple #[.slice none 0 0, .int .i64 b])) w' := RetP.mk (r := []) hs.symm h hb (Sl.nil _ _)
def RetPO (w : World) (r : List Nd) (c : Int) (e : Ending) (w' : World) : Prop :=
  ∃ ao cap, e = .returned (.tuple #[.slice ao r.length cap, .int .i64 c]) ∧ w'.ownsRow w.heap.size 34 16 (.slice ao r.length cap) r.length (flat r) ∧ Below w.heap.size w w'
theorem RetPO.mk {w w' : World} {r s : List Nd} {ao : Option Addr} {b c : Int} {cap : Nat} (hr : r = s) (h : b = c) (hb : Below w.heap.size w w') (hl : w'.ownsRow w.heap.size 34 16 (.slice ao r.length cap) r.length (flat r)) : RetPO w s c (.returned (.tuple #[.slice ao r.length cap, .int .i64 b])) w' := by
  subst hr h; exact ⟨ao, cap, rfl, hl, hb⟩
theorem RetPO.no {w w' : World} {s : List Nd} {b c : Int} (hs : s = []) (h : b = c) (hb : Below w.heap.size w w') : RetPO w s c (.returned (.tuple #[.slice none 0 0, .int .i64 b])) w' := RetPO.mk (r := []) hs.symm h hb (World.ownsRow_nil _ _ _ _)
end Go.Proofs.Ytgkfopodhikckaa

/- Own and same of the merkle laws; Height and Node of the reference. Condition: at most 10^9 nodes. -/
namespace Go.Proofs.Ytgkfopodhikckaa
open Go.RowKit
attribute [local irreducible] wpQuiet wpList
def OwnNRel (w : World) (l : List Nd) (v i : Value) (wr : World) : Prop :=
  ∃ (k : Nat) (r : List Nd) (ao : Option Addr) (cap : Nat), k ≤ l.length ∧ i = .int .i64 k ∧ r = l.take k ∧ v = .slice ao r.length cap ∧ Holds w [] [] [rowA 34 ao cap r] wr
set_option maxRecDepth 100000 in
set_option maxHeartbeats 2000000 in
theorem ownN_any (w : World) (v : Value) (l : List Nd) (hl : Arrs w v l) (hn : l.length ≤ 1000000000) : Calls Try.prog 49 #[v] w (RetAs 34 w l) := by
  obtain ⟨ao, cap, rfl, _⟩ := hl.shape
  have HL := hid hl
  clear hl
  have HH := hid (Holds.init w)
  go_enter Try.func49, Try.ntmps49
  go_wp2_with (first
    | ((first
        | ((with_reducible apply wpL_skip); rfl; skip)
        | ((with_reducible apply wpL_nilCheck); rfl; rfl)
        | ((with_reducible apply wpL_loadArr (t := 41) kA41 HH.out); rfl; (first | exact .here | exact .there .here | exact .there (.there .here) | exact .there (.there (.there .here)) | exact .there (.there (.there (.there .here))) | exact .there (.there (.there (.there (.there .here)))) | exact .there (.there (.there (.there (.there (.there .here))))) | exact .there (.there (.there (.there (.there (.there (.there .here))))))); rfl)
        | ((with_reducible apply wpL_loadC (t := 41) kA41 HH.out); rfl; (first | exact .here | exact .there .here | exact .there (.there .here) | exact .there (.there (.there .here)) | exact .there (.there (.there (.there .here))) | exact .there (.there (.there (.there (.there .here)))) | exact .there (.there (.there (.there (.there (.there .here))))) | exact .there (.there (.there (.there (.there (.there (.there .here))))))); (first | rfl | exact Arr.len _ | (simp; done)); rfl)
        | ((with_reducible apply wpL_len (t := 30) Try.underlying30); rfl; rfl)
        | ((with_reducible apply wpL_len (t := 46) Try.underlying46); rfl; rfl)
        | ((with_reducible apply wpL_move); rfl; rfl)
        | ((with_reducible apply wpL_assign); rfl; rfl)
        | ((with_reducible apply wpL_pick); rfl; rfl; rfl)
        | ((with_reducible apply wpL_not); rfl; rfl)
        | ((with_reducible apply wpL_cmp (b := true)); rfl; rfl; rfl; (first | rfl | assumption | (simp only [cmpB, decide_eq_true_eq, decide_eq_false_iff_not, beq_iff_eq, bne_iff_ne, ne_eq, beq_eq_false_iff_ne, bne_eq_false_iff_eq, gt_iff_lt, ge_iff_le]; omega) | (simp; omega)); rfl)
        | ((with_reducible apply wpL_cmp (b := false)); rfl; rfl; rfl; (first | rfl | assumption | (simp only [cmpB, decide_eq_true_eq, decide_eq_false_iff_not, beq_iff_eq, bne_iff_ne, ne_eq, beq_eq_false_iff_ne, bne_eq_false_iff_eq, gt_iff_lt, ge_iff_le]; omega) | (simp; omega)); rfl)
        | ((with_reducible apply wpL_cmp); rfl; rfl; rfl; rfl; rfl)
        | ((with_reducible apply wpL_arith); rfl; rfl; rfl; (exact IntWalk.i64_in _ (by (try simp only [arithI]); omega)); rfl)); (try simp only [arithI, Act.put, Act.eval, List.setIfInBounds_toArray, List.set_cons_succ, List.set_cons_zero, Array.getD_eq_getD_getElem?, List.getElem?_toArray, List.getElem?_cons_succ, List.getElem?_cons_zero, Option.getD_some])))
  go_loopw [3, 4] (OwnNRel w l) (fun _ i _ => l.length - (intOf i).toNat)
  case atStart => exact ⟨0, [], none, 0, Nat.zero_le _, rfl, rfl, rfl, HH.out.addNil 34 16⟩
  case round =>
    obtain ⟨k, r, ao1, cap1, hk, rfl, hrk, rfl, hr⟩ := hrel
    clear HH
    have HH := hid hr
    have HRK := hid hrk
    have hrl : r.length = k := by rw [hrk, List.length_take]; omega
    clear hr hrk
    by_cases hlt : k < l.length
    · obtain ⟨ad, cap', e⟩ := HL.out.some (by omega)
      cases e
      obtain ⟨x, hx⟩ : ∃ x, l.getD k Nd0 = x := ⟨_, rfl⟩
      have HAR := hid (fun w1 (h1 : Holds w [] [] [rowA 34 ao1 cap1 r] w1) => get_as (show Arrs w1 (.slice (some ad) l.length cap) l from h1.sl HL.out) hlt (show l[k] = x by rw [← hx]; simp [hlt]))
      obtain ⟨r2, hr2⟩ : ∃ r2, r ++ [x] = r2 := ⟨_, rfl⟩
      have HR2 := hid hr2
      have HST := hid (show r2 = l.take (k + 1) by rw [← hr2, HRK.out, ← List.take_append_getElem hlt, ← hx]; simp [hlt])
      clear hx hr2
      go_wp2_with (first
        | ((first
            | ((with_reducible apply wpL_skip); rfl; skip)
            | ((with_reducible apply wpL_idx (j := k) kE30); rfl; rfl; rfl; (exact hlt); rfl)
            | ((with_reducible apply wpL_loadEl (v := x) kA41 (HAR.out _ HH.out)); rfl; rfl)
            | ((with_reducible apply wpL_buildA kE46 x (by decide)); rfl; (exact HH.out); rfl; (intro g_ w_ hq_; clear HH; have HH := hid hq_; clear hq_))
            | ((with_reducible apply wpL_appendA (l := r) (l2 := [x]) (r := r2) kE46 HH.out.swap HH.out.sl0 HR2.out); rfl; rfl; (exact (by simp; omega)); rfl; rfl; rfl; (intro ao4 cap4 w_ hq_; clear HH; have HH := hid hq_.dropSnd; clear hq_))
            | ((with_reducible apply wpL_nilCheck); rfl; rfl)
            | ((with_reducible apply wpL_loadArr (t := 41) kA41 HH.out); rfl; (first | exact .here | exact .there .here | exact .there (.there .here) | exact .there (.there (.there .here)) | exact .there (.there (.there (.there .here))) | exact .there (.there (.there (.there (.there .here)))) | exact .there (.there (.there (.there (.there (.there .here))))) | exact .there (.there (.there (.there (.there (.there (.there .here))))))); rfl)
            | ((with_reducible apply wpL_loadC (t := 41) kA41 HH.out); rfl; (first | exact .here | exact .there .here | exact .there (.there .here) | exact .there (.there (.there .here)) | exact .there (.there (.there (.there .here))) | exact .there (.there (.there (.there (.there .here)))) | exact .there (.there (.there (.there (.there (.there .here))))) | exact .there (.there (.there (.there (.there (.there (.there .here))))))); (first | rfl | exact Arr.len _ | (simp; done)); rfl)
            | ((with_reducible apply wpL_len (t := 30) Try.underlying30); rfl; rfl)
            | ((with_reducible apply wpL_len (t := 46) Try.underlying46); rfl; rfl)
            | ((with_reducible apply wpL_move); rfl; rfl)
            | ((with_reducible apply wpL_assign); rfl; rfl)
            | ((with_reducible apply wpL_pick); rfl; rfl; rfl)
            | ((with_reducible apply wpL_not); rfl; rfl)
            | ((with_reducible apply wpL_cmp (b := true)); rfl; rfl; rfl; (first | rfl | assumption | (simp only [cmpB, decide_eq_true_eq, decide_eq_false_iff_not, beq_iff_eq, bne_iff_ne, ne_eq, beq_eq_false_iff_ne, bne_eq_false_iff_eq, gt_iff_lt, ge_iff_le]; omega) | (simp; omega)); rfl)
            | ((with_reducible apply wpL_cmp (b := false)); rfl; rfl; rfl; (first | rfl | assumption | (simp only [cmpB, decide_eq_true_eq, decide_eq_false_iff_not, beq_iff_eq, bne_iff_ne, ne_eq, beq_eq_false_iff_ne, bne_eq_false_iff_eq, gt_iff_lt, ge_iff_le]; omega) | (simp; omega)); rfl)
            | ((with_reducible apply wpL_cmp); rfl; rfl; rfl; rfl; rfl)
            | ((with_reducible apply wpL_arith); rfl; rfl; rfl; (exact IntWalk.i64_in _ (by (try simp only [arithI]); omega)); rfl)); (try simp only [arithI, Act.put, Act.eval, List.setIfInBounds_toArray, List.set_cons_succ, List.set_cons_zero, Array.getD_eq_getD_getElem?, List.getElem?_toArray, List.getElem?_cons_succ, List.getElem?_cons_zero, Option.getD_some])))
      go_roundw
      case rel => exact ⟨k + 1, r2, _, _, by omega, by go_num, HST.out, rfl, HH.out⟩
      case measure => simp [intOf]; omega
    · have HE := hid (show r = l by rw [HRK.out, List.take_of_length_le (by omega)])
      go_wp2_with (first
        | ((first
            | ((with_reducible apply wpL_skip); rfl; skip)
            | ((with_reducible apply wpL_nilCheck); rfl; rfl)
            | ((with_reducible apply wpL_loadArr (t := 41) kA41 HH.out); rfl; (first | exact .here | exact .there .here | exact .there (.there .here) | exact .there (.there (.there .here)) | exact .there (.there (.there (.there .here))) | exact .there (.there (.there (.there (.there .here)))) | exact .there (.there (.there (.there (.there (.there .here))))) | exact .there (.there (.there (.there (.there (.there (.there .here))))))); rfl)
            | ((with_reducible apply wpL_loadC (t := 41) kA41 HH.out); rfl; (first | exact .here | exact .there .here | exact .there (.there .here) | exact .there (.there (.there .here)) | exact .there (.there (.there (.there .here))) | exact .there (.there (.there (.there (.there .here)))) | exact .there (.there (.there (.there (.there (.there .here))))) | exact .there (.there (.there (.there (.there (.there (.there .here))))))); (first | rfl | exact Arr.len _ | (simp; done)); rfl)
            | ((with_reducible apply wpL_len (t := 30) Try.underlying30); rfl; rfl)
            | ((with_reducible apply wpL_len (t := 46) Try.underlying46); rfl; rfl)
            | ((with_reducible apply wpL_move); rfl; rfl)
            | ((with_reducible apply wpL_assign); rfl; rfl)
            | ((with_reducible apply wpL_pick); rfl; rfl; rfl)
            | ((with_reducible apply wpL_not); rfl; rfl)
            | ((with_reducible apply wpL_cmp (b := true)); rfl; rfl; rfl; (first | rfl | assumption | (simp only [cmpB, decide_eq_true_eq, decide_eq_false_iff_not, beq_iff_eq, bne_iff_ne, ne_eq, beq_eq_false_iff_ne, bne_eq_false_iff_eq, gt_iff_lt, ge_iff_le]; omega) | (simp; omega)); rfl)
            | ((with_reducible apply wpL_cmp (b := false)); rfl; rfl; rfl; (first | rfl | assumption | (simp only [cmpB, decide_eq_true_eq, decide_eq_false_iff_not, beq_iff_eq, bne_iff_ne, ne_eq, beq_eq_false_iff_ne, bne_eq_false_iff_eq, gt_iff_lt, ge_iff_le]; omega) | (simp; omega)); rfl)
            | ((with_reducible apply wpL_cmp); rfl; rfl; rfl; rfl; rfl)
            | ((with_reducible apply wpL_arith); rfl; rfl; rfl; (exact IntWalk.i64_in _ (by (try simp only [arithI]); omega)); rfl)); (try simp only [arithI, Act.put, Act.eval, List.setIfInBounds_toArray, List.set_cons_succ, List.set_cons_zero, Array.getD_eq_getD_getElem?, List.getElem?_toArray, List.getElem?_cons_succ, List.getElem?_cons_zero, Option.getD_some])))
      go_ret
      exact RetAs.of HE.out HH.out.own0 HH.out.below
def SameNRel (w : World) (l m : List Nd) (i : Value) (wr : World) : Prop :=
  ∃ k : Nat, k ≤ l.length ∧ i = .int .i64 k ∧ l.take k = m.take k ∧ Holds w [] [] [] wr
theorem take_nextN {l m : List Nd} {k : Nat} (hl : k < l.length) (hm : k < m.length) (h : l[k] = m[k]) (ht : l.take k = m.take k) : l.take (k + 1) = m.take (k + 1) := by
  rw [← List.take_append_getElem hl, ← List.take_append_getElem hm, ht, h]
set_option maxRecDepth 100000 in
set_option maxHeartbeats 2000000 in
theorem sameN_any (w : World) (v1 v2 : Value) (l m : List Nd) (h1 : Arrs w v1 l) (h2 : Arrs w v2 m) (hn : l.length ≤ 1000000000) (hn2 : m.length ≤ 1000000000) : Calls Try.prog 28 #[v1, v2] w (RetB w (l == m)) := by
  obtain ⟨a1, c1, rfl, _⟩ := h1.shape
  obtain ⟨a2, c2, rfl, _⟩ := h2.shape
  have HH := hid (Holds.init w)
  have H1 := hid h1
  have H2 := hid h2
  clear h1 h2
  by_cases hlen : l.length = m.length
  · have hb : ((l.length : Int) != (m.length : Int)) = false := by simp [hlen]
    have HL := hid hlen
    clear hlen
    go_enter Try.func28, Try.ntmps28
    go_wp2_with (first
      | ((first
          | ((with_reducible apply wpL_skip); rfl; skip)
          | ((with_reducible apply wpL_nilCheck); rfl; rfl)
          | ((with_reducible apply wpL_loadArr (t := 34) kA34 HH.out); rfl; (first | exact .here | exact .there .here | exact .there (.there .here) | exact .there (.there (.there .here)) | exact .there (.there (.there (.there .here))) | exact .there (.there (.there (.there (.there .here)))) | exact .there (.there (.there (.there (.there (.there .here))))) | exact .there (.there (.there (.there (.there (.there (.there .here))))))); rfl)
          | ((with_reducible apply wpL_loadC (t := 34) kA34 HH.out); rfl; (first | exact .here | exact .there .here | exact .there (.there .here) | exact .there (.there (.there .here)) | exact .there (.there (.there (.there .here))) | exact .there (.there (.there (.there (.there .here)))) | exact .there (.there (.there (.there (.there (.there .here))))) | exact .there (.there (.there (.there (.there (.there (.there .here))))))); (first | rfl | exact Arr.len _ | (simp; done)); rfl)
          | ((with_reducible apply wpL_loadArr (t := 41) kA41 HH.out); rfl; (first | exact .here | exact .there .here | exact .there (.there .here) | exact .there (.there (.there .here)) | exact .there (.there (.there (.there .here))) | exact .there (.there (.there (.there (.there .here)))) | exact .there (.there (.there (.there (.there (.there .here))))) | exact .there (.there (.there (.there (.there (.there (.there .here))))))); rfl)
          | ((with_reducible apply wpL_loadC (t := 41) kA41 HH.out); rfl; (first | exact .here | exact .there .here | exact .there (.there .here) | exact .there (.there (.there .here)) | exact .there (.there (.there (.there .here))) | exact .there (.there (.there (.there (.there .here)))) | exact .there (.there (.there (.there (.there (.there .here))))) | exact .there (.there (.there (.there (.there (.there (.there .here))))))); (first | rfl | exact Arr.len _ | (simp; done)); rfl)
          | ((with_reducible apply wpL_len (t := 30) Try.underlying30); rfl; rfl)
          | ((with_reducible apply wpL_len (t := 46) Try.underlying46); rfl; rfl)
          | ((with_reducible apply wpL_move); rfl; rfl)
          | ((with_reducible apply wpL_assign); rfl; rfl)
          | ((with_reducible apply wpL_pick); rfl; rfl; rfl)
          | ((with_reducible apply wpL_not); rfl; rfl)
          | ((with_reducible apply wpL_cmp (b := true)); rfl; rfl; rfl; (first | rfl | assumption | (simp only [cmpB, decide_eq_true_eq, decide_eq_false_iff_not, beq_iff_eq, bne_iff_ne, ne_eq, beq_eq_false_iff_ne, bne_eq_false_iff_eq, gt_iff_lt, ge_iff_le]; omega) | (simp; omega)); rfl)
          | ((with_reducible apply wpL_cmp (b := false)); rfl; rfl; rfl; (first | rfl | assumption | (simp only [cmpB, decide_eq_true_eq, decide_eq_false_iff_not, beq_iff_eq, bne_iff_ne, ne_eq, beq_eq_false_iff_ne, bne_eq_false_iff_eq, gt_iff_lt, ge_iff_le]; omega) | (simp; omega)); rfl)
          | ((with_reducible apply wpL_cmp); rfl; rfl; rfl; rfl; rfl)
          | ((with_reducible apply wpL_arith); rfl; rfl; rfl; (exact IntWalk.i64_in _ (by (try simp only [arithI]); omega)); rfl)); (try simp only [arithI, Act.put, Act.eval, List.setIfInBounds_toArray, List.set_cons_succ, List.set_cons_zero, Array.getD_eq_getD_getElem?, List.getElem?_toArray, List.getElem?_cons_succ, List.getElem?_cons_zero, Option.getD_some])))
    go_loopw [5] (SameNRel w l m) (fun i _ => l.length - (intOf i).toNat)
    case atStart => exact ⟨0, Nat.zero_le _, rfl, rfl, HH.out⟩
    case round =>
      obtain ⟨k, hk, rfl, htk, hr⟩ := hrel
      clear HH
      have HH := hid hr
      have HT := hid htk
      clear hr htk
      by_cases hlt : k < l.length
      · have hlt2 : k < m.length := by rw [← HL.out]; exact hlt
        obtain ⟨x1, y1, e⟩ := H1.out.some (by omega)
        cases e
        obtain ⟨x2, y2, e⟩ := H2.out.some (by omega)
        cases e
        by_cases hxy : l[k] = m[k]
        · have HXY := hid (show (!(l[k] == m[k])) = false by rw [hxy]; simp)
          have HNT := hid (take_nextN hlt hlt2 hxy HT.out)
          clear hxy
          go_wp2_with (first
            | ((first
                | ((with_reducible apply wpL_skip); rfl; skip)
                | ((with_reducible apply wpL_nilCheck); rfl; rfl)
                | ((with_reducible apply wpL_loadArr (t := 34) kA34 HH.out); rfl; (first | exact .here | exact .there .here | exact .there (.there .here) | exact .there (.there (.there .here)) | exact .there (.there (.there (.there .here))) | exact .there (.there (.there (.there (.there .here)))) | exact .there (.there (.there (.there (.there (.there .here))))) | exact .there (.there (.there (.there (.there (.there (.there .here))))))); rfl)
                | ((with_reducible apply wpL_loadC (t := 34) kA34 HH.out); rfl; (first | exact .here | exact .there .here | exact .there (.there .here) | exact .there (.there (.there .here)) | exact .there (.there (.there (.there .here))) | exact .there (.there (.there (.there (.there .here)))) | exact .there (.there (.there (.there (.there (.there .here))))) | exact .there (.there (.there (.there (.there (.there (.there .here))))))); (first | rfl | exact Arr.len _ | (simp; done)); rfl)
                | ((with_reducible apply wpL_loadArr (t := 41) kA41 HH.out); rfl; (first | exact .here | exact .there .here | exact .there (.there .here) | exact .there (.there (.there .here)) | exact .there (.there (.there (.there .here))) | exact .there (.there (.there (.there (.there .here)))) | exact .there (.there (.there (.there (.there (.there .here))))) | exact .there (.there (.there (.there (.there (.there (.there .here))))))); rfl)
                | ((with_reducible apply wpL_loadC (t := 41) kA41 HH.out); rfl; (first | exact .here | exact .there .here | exact .there (.there .here) | exact .there (.there (.there .here)) | exact .there (.there (.there (.there .here))) | exact .there (.there (.there (.there (.there .here)))) | exact .there (.there (.there (.there (.there (.there .here))))) | exact .there (.there (.there (.there (.there (.there (.there .here))))))); (first | rfl | exact Arr.len _ | (simp; done)); rfl)
                | ((with_reducible apply wpL_len (t := 30) Try.underlying30); rfl; rfl)
                | ((with_reducible apply wpL_len (t := 46) Try.underlying46); rfl; rfl)
                | ((with_reducible apply wpL_move); rfl; rfl)
                | ((with_reducible apply wpL_assign); rfl; rfl)
                | ((with_reducible apply wpL_pick); rfl; rfl; rfl)
                | ((with_reducible apply wpL_not); rfl; rfl)
                | ((with_reducible apply wpL_cmp (b := true)); rfl; rfl; rfl; (first | rfl | assumption | (simp only [cmpB, decide_eq_true_eq, decide_eq_false_iff_not, beq_iff_eq, bne_iff_ne, ne_eq, beq_eq_false_iff_ne, bne_eq_false_iff_eq, gt_iff_lt, ge_iff_le]; omega) | (simp; omega)); rfl)
                | ((with_reducible apply wpL_cmp (b := false)); rfl; rfl; rfl; (first | rfl | assumption | (simp only [cmpB, decide_eq_true_eq, decide_eq_false_iff_not, beq_iff_eq, bne_iff_ne, ne_eq, beq_eq_false_iff_ne, bne_eq_false_iff_eq, gt_iff_lt, ge_iff_le]; omega) | (simp; omega)); rfl)
                | ((with_reducible apply wpL_cmp); rfl; rfl; rfl; rfl; rfl)
                | ((with_reducible apply wpL_arith); rfl; rfl; rfl; (exact IntWalk.i64_in _ (by (try simp only [arithI]); omega)); rfl)); (try simp only [arithI, Act.put, Act.eval, List.setIfInBounds_toArray, List.set_cons_succ, List.set_cons_zero, Array.getD_eq_getD_getElem?, List.getElem?_toArray, List.getElem?_cons_succ, List.getElem?_cons_zero, Option.getD_some])))
          refine wp_region_holds (by kernel_rfl) (by kernel_rfl) HH.out ?_
          repeat ((first
            | ((with_reducible apply wpQ_skip); rfl; skip)
            | ((with_reducible apply wpQ_index (dst := some 19) kE46 (j := k)); rfl; rfl; rfl; (exact hlt); rfl)
            | ((with_reducible apply wpQ_index (dst := some 23) kE30 (j := k)); rfl; rfl; rfl; (exact hlt2); rfl)
            | ((with_reducible apply wpQ_loadEl (dst := some 20) (v := l[k]) kA34 (fun wq hwq => Arrs.get (show Arrs wq _ l from Holds.sl hwq H1.out) k hlt)); rfl; rfl)
            | ((with_reducible apply wpQ_loadEl (dst := some 24) (v := m[k]) kA41 (fun wq hwq => Arrs.get (show Arrs wq _ m from Holds.sl hwq H2.out) k hlt2)); rfl; rfl)
            | ((with_reducible apply wpQ_neqA (b := false) (p := l[k]) (q := m[k]) kR34); rfl; rfl; (exact HXY.out); rfl)
            | ((with_reducible apply wpQ_nilCheck); rfl; rfl)
            | ((with_reducible apply wpQ_loadArr (t := 34) kA34); rfl; (first | exact .here | exact .there .here | exact .there (.there .here) | exact .there (.there (.there .here)) | exact .there (.there (.there (.there .here))) | exact .there (.there (.there (.there (.there .here)))) | exact .there (.there (.there (.there (.there (.there .here))))) | exact .there (.there (.there (.there (.there (.there (.there .here))))))); rfl)
            | ((with_reducible apply wpQ_loadC (t := 34) kA34); rfl; (first | exact .here | exact .there .here | exact .there (.there .here) | exact .there (.there (.there .here)) | exact .there (.there (.there (.there .here))) | exact .there (.there (.there (.there (.there .here)))) | exact .there (.there (.there (.there (.there (.there .here))))) | exact .there (.there (.there (.there (.there (.there (.there .here))))))); (first | rfl | exact Arr.len _ | (simp; done)); rfl)
            | ((with_reducible apply wpQ_loadArr (t := 41) kA41); rfl; (first | exact .here | exact .there .here | exact .there (.there .here) | exact .there (.there (.there .here)) | exact .there (.there (.there (.there .here))) | exact .there (.there (.there (.there (.there .here)))) | exact .there (.there (.there (.there (.there (.there .here))))) | exact .there (.there (.there (.there (.there (.there (.there .here))))))); rfl)
            | ((with_reducible apply wpQ_loadC (t := 41) kA41); rfl; (first | exact .here | exact .there .here | exact .there (.there .here) | exact .there (.there (.there .here)) | exact .there (.there (.there (.there .here))) | exact .there (.there (.there (.there (.there .here)))) | exact .there (.there (.there (.there (.there (.there .here))))) | exact .there (.there (.there (.there (.there (.there (.there .here))))))); (first | rfl | exact Arr.len _ | (simp; done)); rfl)
            | ((with_reducible apply wpQ_len (t := 30) Try.underlying30); rfl; rfl)
            | ((with_reducible apply wpQ_len (t := 46) Try.underlying46); rfl; rfl)
            | ((with_reducible apply wpQ_move); rfl; rfl)
            | ((with_reducible apply wpQ_assign); rfl; rfl)
            | ((with_reducible apply wpQ_pick); rfl; rfl; rfl)
            | ((with_reducible apply wpQ_not); rfl; rfl)
            | ((with_reducible apply wpQ_cmp (b := true)); rfl; rfl; rfl; (first | rfl | assumption | (simp only [cmpB, decide_eq_true_eq, decide_eq_false_iff_not, beq_iff_eq, bne_iff_ne, ne_eq, beq_eq_false_iff_ne, bne_eq_false_iff_eq, gt_iff_lt, ge_iff_le]; omega) | (simp; omega)); rfl)
            | ((with_reducible apply wpQ_cmp (b := false)); rfl; rfl; rfl; (first | rfl | assumption | (simp only [cmpB, decide_eq_true_eq, decide_eq_false_iff_not, beq_iff_eq, bne_iff_ne, ne_eq, beq_eq_false_iff_ne, bne_eq_false_iff_eq, gt_iff_lt, ge_iff_le]; omega) | (simp; omega)); rfl)
            | ((with_reducible apply wpQ_cmp); rfl; rfl; rfl; rfl; rfl)
            | ((with_reducible apply wpQ_arith); rfl; rfl; rfl; (exact IntWalk.i64_in _ (by (try simp only [arithI]); omega)); rfl)); (try simp only [if_true, if_false, Bool.false_eq_true, arithI, Act.put, Act.eval, List.setIfInBounds_toArray, List.set_cons_succ, List.set_cons_zero, Array.getD_eq_getD_getElem?, List.getElem?_toArray, List.getElem?_cons_succ, List.getElem?_cons_zero, Option.getD_some]))
          refine wpQuiet_nil ?_
          intro wq hq_
          have HQ := hid hq_
          clear hq_
          clear HH
          have HH := HQ
          clear HQ
          go_wp2_with (first
            | ((first
                | ((with_reducible apply wpL_skip); rfl; skip)
                | ((with_reducible apply wpL_nilCheck); rfl; rfl)
                | ((with_reducible apply wpL_loadArr (t := 34) kA34 HH.out); rfl; (first | exact .here | exact .there .here | exact .there (.there .here) | exact .there (.there (.there .here)) | exact .there (.there (.there (.there .here))) | exact .there (.there (.there (.there (.there .here)))) | exact .there (.there (.there (.there (.there (.there .here))))) | exact .there (.there (.there (.there (.there (.there (.there .here))))))); rfl)
                | ((with_reducible apply wpL_loadC (t := 34) kA34 HH.out); rfl; (first | exact .here | exact .there .here | exact .there (.there .here) | exact .there (.there (.there .here)) | exact .there (.there (.there (.there .here))) | exact .there (.there (.there (.there (.there .here)))) | exact .there (.there (.there (.there (.there (.there .here))))) | exact .there (.there (.there (.there (.there (.there (.there .here))))))); (first | rfl | exact Arr.len _ | (simp; done)); rfl)
                | ((with_reducible apply wpL_loadArr (t := 41) kA41 HH.out); rfl; (first | exact .here | exact .there .here | exact .there (.there .here) | exact .there (.there (.there .here)) | exact .there (.there (.there (.there .here))) | exact .there (.there (.there (.there (.there .here)))) | exact .there (.there (.there (.there (.there (.there .here))))) | exact .there (.there (.there (.there (.there (.there (.there .here))))))); rfl)
                | ((with_reducible apply wpL_loadC (t := 41) kA41 HH.out); rfl; (first | exact .here | exact .there .here | exact .there (.there .here) | exact .there (.there (.there .here)) | exact .there (.there (.there (.there .here))) | exact .there (.there (.there (.there (.there .here)))) | exact .there (.there (.there (.there (.there (.there .here))))) | exact .there (.there (.there (.there (.there (.there (.there .here))))))); (first | rfl | exact Arr.len _ | (simp; done)); rfl)
                | ((with_reducible apply wpL_len (t := 30) Try.underlying30); rfl; rfl)
                | ((with_reducible apply wpL_len (t := 46) Try.underlying46); rfl; rfl)
                | ((with_reducible apply wpL_move); rfl; rfl)
                | ((with_reducible apply wpL_assign); rfl; rfl)
                | ((with_reducible apply wpL_pick); rfl; rfl; rfl)
                | ((with_reducible apply wpL_not); rfl; rfl)
                | ((with_reducible apply wpL_cmp (b := true)); rfl; rfl; rfl; (first | rfl | assumption | (simp only [cmpB, decide_eq_true_eq, decide_eq_false_iff_not, beq_iff_eq, bne_iff_ne, ne_eq, beq_eq_false_iff_ne, bne_eq_false_iff_eq, gt_iff_lt, ge_iff_le]; omega) | (simp; omega)); rfl)
                | ((with_reducible apply wpL_cmp (b := false)); rfl; rfl; rfl; (first | rfl | assumption | (simp only [cmpB, decide_eq_true_eq, decide_eq_false_iff_not, beq_iff_eq, bne_iff_ne, ne_eq, beq_eq_false_iff_ne, bne_eq_false_iff_eq, gt_iff_lt, ge_iff_le]; omega) | (simp; omega)); rfl)
                | ((with_reducible apply wpL_cmp); rfl; rfl; rfl; rfl; rfl)
                | ((with_reducible apply wpL_arith); rfl; rfl; rfl; (exact IntWalk.i64_in _ (by (try simp only [arithI]); omega)); rfl)); (try simp only [arithI, Act.put, Act.eval, List.setIfInBounds_toArray, List.set_cons_succ, List.set_cons_zero, Array.getD_eq_getD_getElem?, List.getElem?_toArray, List.getElem?_cons_succ, List.getElem?_cons_zero, Option.getD_some])))
          go_roundw
          case rel => exact ⟨k + 1, by omega, by go_num, HNT.out, HH.out⟩
          case measure => simp [intOf]; omega
        · have HXY := hid (show (!(l[k] == m[k])) = true by rw [Bool.not_eq_true', beq_eq_false_iff_ne]; exact hxy)
          have HNE := hid (show (l == m) = false by
            simp only [beq_eq_false_iff_ne]
            intro e
            subst e
            exact hxy rfl)
          clear hxy
          go_wp2_with (first
            | ((first
                | ((with_reducible apply wpL_skip); rfl; skip)
                | ((with_reducible apply wpL_nilCheck); rfl; rfl)
                | ((with_reducible apply wpL_loadArr (t := 34) kA34 HH.out); rfl; (first | exact .here | exact .there .here | exact .there (.there .here) | exact .there (.there (.there .here)) | exact .there (.there (.there (.there .here))) | exact .there (.there (.there (.there (.there .here)))) | exact .there (.there (.there (.there (.there (.there .here))))) | exact .there (.there (.there (.there (.there (.there (.there .here))))))); rfl)
                | ((with_reducible apply wpL_loadC (t := 34) kA34 HH.out); rfl; (first | exact .here | exact .there .here | exact .there (.there .here) | exact .there (.there (.there .here)) | exact .there (.there (.there (.there .here))) | exact .there (.there (.there (.there (.there .here)))) | exact .there (.there (.there (.there (.there (.there .here))))) | exact .there (.there (.there (.there (.there (.there (.there .here))))))); (first | rfl | exact Arr.len _ | (simp; done)); rfl)
                | ((with_reducible apply wpL_loadArr (t := 41) kA41 HH.out); rfl; (first | exact .here | exact .there .here | exact .there (.there .here) | exact .there (.there (.there .here)) | exact .there (.there (.there (.there .here))) | exact .there (.there (.there (.there (.there .here)))) | exact .there (.there (.there (.there (.there (.there .here))))) | exact .there (.there (.there (.there (.there (.there (.there .here))))))); rfl)
                | ((with_reducible apply wpL_loadC (t := 41) kA41 HH.out); rfl; (first | exact .here | exact .there .here | exact .there (.there .here) | exact .there (.there (.there .here)) | exact .there (.there (.there (.there .here))) | exact .there (.there (.there (.there (.there .here)))) | exact .there (.there (.there (.there (.there (.there .here))))) | exact .there (.there (.there (.there (.there (.there (.there .here))))))); (first | rfl | exact Arr.len _ | (simp; done)); rfl)
                | ((with_reducible apply wpL_len (t := 30) Try.underlying30); rfl; rfl)
                | ((with_reducible apply wpL_len (t := 46) Try.underlying46); rfl; rfl)
                | ((with_reducible apply wpL_move); rfl; rfl)
                | ((with_reducible apply wpL_assign); rfl; rfl)
                | ((with_reducible apply wpL_pick); rfl; rfl; rfl)
                | ((with_reducible apply wpL_not); rfl; rfl)
                | ((with_reducible apply wpL_cmp (b := true)); rfl; rfl; rfl; (first | rfl | assumption | (simp only [cmpB, decide_eq_true_eq, decide_eq_false_iff_not, beq_iff_eq, bne_iff_ne, ne_eq, beq_eq_false_iff_ne, bne_eq_false_iff_eq, gt_iff_lt, ge_iff_le]; omega) | (simp; omega)); rfl)
                | ((with_reducible apply wpL_cmp (b := false)); rfl; rfl; rfl; (first | rfl | assumption | (simp only [cmpB, decide_eq_true_eq, decide_eq_false_iff_not, beq_iff_eq, bne_iff_ne, ne_eq, beq_eq_false_iff_ne, bne_eq_false_iff_eq, gt_iff_lt, ge_iff_le]; omega) | (simp; omega)); rfl)
                | ((with_reducible apply wpL_cmp); rfl; rfl; rfl; rfl; rfl)
                | ((with_reducible apply wpL_arith); rfl; rfl; rfl; (exact IntWalk.i64_in _ (by (try simp only [arithI]); omega)); rfl)); (try simp only [arithI, Act.put, Act.eval, List.setIfInBounds_toArray, List.set_cons_succ, List.set_cons_zero, Array.getD_eq_getD_getElem?, List.getElem?_toArray, List.getElem?_cons_succ, List.getElem?_cons_zero, Option.getD_some])))
          refine wp_region_holds (by kernel_rfl) (by kernel_rfl) HH.out ?_
          repeat ((first
            | ((with_reducible apply wpQ_skip); rfl; skip)
            | ((with_reducible apply wpQ_index (dst := some 19) kE46 (j := k)); rfl; rfl; rfl; (exact hlt); rfl)
            | ((with_reducible apply wpQ_index (dst := some 23) kE30 (j := k)); rfl; rfl; rfl; (exact hlt2); rfl)
            | ((with_reducible apply wpQ_loadEl (dst := some 20) (v := l[k]) kA34 (fun wq hwq => Arrs.get (show Arrs wq _ l from Holds.sl hwq H1.out) k hlt)); rfl; rfl)
            | ((with_reducible apply wpQ_loadEl (dst := some 24) (v := m[k]) kA41 (fun wq hwq => Arrs.get (show Arrs wq _ m from Holds.sl hwq H2.out) k hlt2)); rfl; rfl)
            | ((with_reducible apply wpQ_neqA (b := true) (p := l[k]) (q := m[k]) kR34); rfl; rfl; (exact HXY.out); rfl)
            | ((with_reducible apply wpQ_nilCheck); rfl; rfl)
            | ((with_reducible apply wpQ_loadArr (t := 34) kA34); rfl; (first | exact .here | exact .there .here | exact .there (.there .here) | exact .there (.there (.there .here)) | exact .there (.there (.there (.there .here))) | exact .there (.there (.there (.there (.there .here)))) | exact .there (.there (.there (.there (.there (.there .here))))) | exact .there (.there (.there (.there (.there (.there (.there .here))))))); rfl)
            | ((with_reducible apply wpQ_loadC (t := 34) kA34); rfl; (first | exact .here | exact .there .here | exact .there (.there .here) | exact .there (.there (.there .here)) | exact .there (.there (.there (.there .here))) | exact .there (.there (.there (.there (.there .here)))) | exact .there (.there (.there (.there (.there (.there .here))))) | exact .there (.there (.there (.there (.there (.there (.there .here))))))); (first | rfl | exact Arr.len _ | (simp; done)); rfl)
            | ((with_reducible apply wpQ_loadArr (t := 41) kA41); rfl; (first | exact .here | exact .there .here | exact .there (.there .here) | exact .there (.there (.there .here)) | exact .there (.there (.there (.there .here))) | exact .there (.there (.there (.there (.there .here)))) | exact .there (.there (.there (.there (.there (.there .here))))) | exact .there (.there (.there (.there (.there (.there (.there .here))))))); rfl)
            | ((with_reducible apply wpQ_loadC (t := 41) kA41); rfl; (first | exact .here | exact .there .here | exact .there (.there .here) | exact .there (.there (.there .here)) | exact .there (.there (.there (.there .here))) | exact .there (.there (.there (.there (.there .here)))) | exact .there (.there (.there (.there (.there (.there .here))))) | exact .there (.there (.there (.there (.there (.there (.there .here))))))); (first | rfl | exact Arr.len _ | (simp; done)); rfl)
            | ((with_reducible apply wpQ_len (t := 30) Try.underlying30); rfl; rfl)
            | ((with_reducible apply wpQ_len (t := 46) Try.underlying46); rfl; rfl)
            | ((with_reducible apply wpQ_move); rfl; rfl)
            | ((with_reducible apply wpQ_assign); rfl; rfl)
            | ((with_reducible apply wpQ_pick); rfl; rfl; rfl)
            | ((with_reducible apply wpQ_not); rfl; rfl)
            | ((with_reducible apply wpQ_cmp (b := true)); rfl; rfl; rfl; (first | rfl | assumption | (simp only [cmpB, decide_eq_true_eq, decide_eq_false_iff_not, beq_iff_eq, bne_iff_ne, ne_eq, beq_eq_false_iff_ne, bne_eq_false_iff_eq, gt_iff_lt, ge_iff_le]; omega) | (simp; omega)); rfl)
            | ((with_reducible apply wpQ_cmp (b := false)); rfl; rfl; rfl; (first | rfl | assumption | (simp only [cmpB, decide_eq_true_eq, decide_eq_false_iff_not, beq_iff_eq, bne_iff_ne, ne_eq, beq_eq_false_iff_ne, bne_eq_false_iff_eq, gt_iff_lt, ge_iff_le]; omega) | (simp; omega)); rfl)
            | ((with_reducible apply wpQ_cmp); rfl; rfl; rfl; rfl; rfl)
            | ((with_reducible apply wpQ_arith); rfl; rfl; rfl; (exact IntWalk.i64_in _ (by (try simp only [arithI]); omega)); rfl)); (try simp only [if_true, if_false, Bool.false_eq_true, arithI, Act.put, Act.eval, List.setIfInBounds_toArray, List.set_cons_succ, List.set_cons_zero, Array.getD_eq_getD_getElem?, List.getElem?_toArray, List.getElem?_cons_succ, List.getElem?_cons_zero, Option.getD_some]))
          refine wpQuiet_nil ?_
          intro wq hq_
          have HQ := hid hq_
          clear hq_
          clear HH
          have HH := HQ
          clear HQ
          go_wp2_with (first
            | ((first
                | ((with_reducible apply wpL_skip); rfl; skip)
                | ((with_reducible apply wpL_nilCheck); rfl; rfl)
                | ((with_reducible apply wpL_loadArr (t := 34) kA34 HH.out); rfl; (first | exact .here | exact .there .here | exact .there (.there .here) | exact .there (.there (.there .here)) | exact .there (.there (.there (.there .here))) | exact .there (.there (.there (.there (.there .here)))) | exact .there (.there (.there (.there (.there (.there .here))))) | exact .there (.there (.there (.there (.there (.there (.there .here))))))); rfl)
                | ((with_reducible apply wpL_loadC (t := 34) kA34 HH.out); rfl; (first | exact .here | exact .there .here | exact .there (.there .here) | exact .there (.there (.there .here)) | exact .there (.there (.there (.there .here))) | exact .there (.there (.there (.there (.there .here)))) | exact .there (.there (.there (.there (.there (.there .here))))) | exact .there (.there (.there (.there (.there (.there (.there .here))))))); (first | rfl | exact Arr.len _ | (simp; done)); rfl)
                | ((with_reducible apply wpL_loadArr (t := 41) kA41 HH.out); rfl; (first | exact .here | exact .there .here | exact .there (.there .here) | exact .there (.there (.there .here)) | exact .there (.there (.there (.there .here))) | exact .there (.there (.there (.there (.there .here)))) | exact .there (.there (.there (.there (.there (.there .here))))) | exact .there (.there (.there (.there (.there (.there (.there .here))))))); rfl)
                | ((with_reducible apply wpL_loadC (t := 41) kA41 HH.out); rfl; (first | exact .here | exact .there .here | exact .there (.there .here) | exact .there (.there (.there .here)) | exact .there (.there (.there (.there .here))) | exact .there (.there (.there (.there (.there .here)))) | exact .there (.there (.there (.there (.there (.there .here))))) | exact .there (.there (.there (.there (.there (.there (.there .here))))))); (first | rfl | exact Arr.len _ | (simp; done)); rfl)
                | ((with_reducible apply wpL_len (t := 30) Try.underlying30); rfl; rfl)
                | ((with_reducible apply wpL_len (t := 46) Try.underlying46); rfl; rfl)
                | ((with_reducible apply wpL_move); rfl; rfl)
                | ((with_reducible apply wpL_assign); rfl; rfl)
                | ((with_reducible apply wpL_pick); rfl; rfl; rfl)
                | ((with_reducible apply wpL_not); rfl; rfl)
                | ((with_reducible apply wpL_cmp (b := true)); rfl; rfl; rfl; (first | rfl | assumption | (simp only [cmpB, decide_eq_true_eq, decide_eq_false_iff_not, beq_iff_eq, bne_iff_ne, ne_eq, beq_eq_false_iff_ne, bne_eq_false_iff_eq, gt_iff_lt, ge_iff_le]; omega) | (simp; omega)); rfl)
                | ((with_reducible apply wpL_cmp (b := false)); rfl; rfl; rfl; (first | rfl | assumption | (simp only [cmpB, decide_eq_true_eq, decide_eq_false_iff_not, beq_iff_eq, bne_iff_ne, ne_eq, beq_eq_false_iff_ne, bne_eq_false_iff_eq, gt_iff_lt, ge_iff_le]; omega) | (simp; omega)); rfl)
                | ((with_reducible apply wpL_cmp); rfl; rfl; rfl; rfl; rfl)
                | ((with_reducible apply wpL_arith); rfl; rfl; rfl; (exact IntWalk.i64_in _ (by (try simp only [arithI]); omega)); rfl)); (try simp only [arithI, Act.put, Act.eval, List.setIfInBounds_toArray, List.set_cons_succ, List.set_cons_zero, Array.getD_eq_getD_getElem?, List.getElem?_toArray, List.getElem?_cons_succ, List.getElem?_cons_zero, Option.getD_some])))
          go_ret
          exact RetB.mk HNE.out.symm HH.out.below
      · obtain rfl : k = l.length := by omega
        have HE := hid (show (l == m) = true by
          have e := HT.out
          rw [List.take_length, HL.out, List.take_length] at e
          rw [e]; simp)
        go_wp2_with (first
          | ((first
              | ((with_reducible apply wpL_skip); rfl; skip)
              | ((with_reducible apply wpL_nilCheck); rfl; rfl)
              | ((with_reducible apply wpL_loadArr (t := 34) kA34 HH.out); rfl; (first | exact .here | exact .there .here | exact .there (.there .here) | exact .there (.there (.there .here)) | exact .there (.there (.there (.there .here))) | exact .there (.there (.there (.there (.there .here)))) | exact .there (.there (.there (.there (.there (.there .here))))) | exact .there (.there (.there (.there (.there (.there (.there .here))))))); rfl)
              | ((with_reducible apply wpL_loadC (t := 34) kA34 HH.out); rfl; (first | exact .here | exact .there .here | exact .there (.there .here) | exact .there (.there (.there .here)) | exact .there (.there (.there (.there .here))) | exact .there (.there (.there (.there (.there .here)))) | exact .there (.there (.there (.there (.there (.there .here))))) | exact .there (.there (.there (.there (.there (.there (.there .here))))))); (first | rfl | exact Arr.len _ | (simp; done)); rfl)
              | ((with_reducible apply wpL_loadArr (t := 41) kA41 HH.out); rfl; (first | exact .here | exact .there .here | exact .there (.there .here) | exact .there (.there (.there .here)) | exact .there (.there (.there (.there .here))) | exact .there (.there (.there (.there (.there .here)))) | exact .there (.there (.there (.there (.there (.there .here))))) | exact .there (.there (.there (.there (.there (.there (.there .here))))))); rfl)
              | ((with_reducible apply wpL_loadC (t := 41) kA41 HH.out); rfl; (first | exact .here | exact .there .here | exact .there (.there .here) | exact .there (.there (.there .here)) | exact .there (.there (.there (.there .here))) | exact .there (.there (.there (.there (.there .here)))) | exact .there (.there (.there (.there (.there (.there .here))))) | exact .there (.there (.there (.there (.there (.there (.there .here))))))); (first | rfl | exact Arr.len _ | (simp; done)); rfl)
              | ((with_reducible apply wpL_len (t := 30) Try.underlying30); rfl; rfl)
              | ((with_reducible apply wpL_len (t := 46) Try.underlying46); rfl; rfl)
              | ((with_reducible apply wpL_move); rfl; rfl)
              | ((with_reducible apply wpL_assign); rfl; rfl)
              | ((with_reducible apply wpL_pick); rfl; rfl; rfl)
              | ((with_reducible apply wpL_not); rfl; rfl)
              | ((with_reducible apply wpL_cmp (b := true)); rfl; rfl; rfl; (first | rfl | assumption | (simp only [cmpB, decide_eq_true_eq, decide_eq_false_iff_not, beq_iff_eq, bne_iff_ne, ne_eq, beq_eq_false_iff_ne, bne_eq_false_iff_eq, gt_iff_lt, ge_iff_le]; omega) | (simp; omega)); rfl)
              | ((with_reducible apply wpL_cmp (b := false)); rfl; rfl; rfl; (first | rfl | assumption | (simp only [cmpB, decide_eq_true_eq, decide_eq_false_iff_not, beq_iff_eq, bne_iff_ne, ne_eq, beq_eq_false_iff_ne, bne_eq_false_iff_eq, gt_iff_lt, ge_iff_le]; omega) | (simp; omega)); rfl)
              | ((with_reducible apply wpL_cmp); rfl; rfl; rfl; rfl; rfl)
              | ((with_reducible apply wpL_arith); rfl; rfl; rfl; (exact IntWalk.i64_in _ (by (try simp only [arithI]); omega)); rfl)); (try simp only [arithI, Act.put, Act.eval, List.setIfInBounds_toArray, List.set_cons_succ, List.set_cons_zero, Array.getD_eq_getD_getElem?, List.getElem?_toArray, List.getElem?_cons_succ, List.getElem?_cons_zero, Option.getD_some])))
        go_ret
        exact RetB.mk HE.out.symm HH.out.below
  · have hb : ((l.length : Int) != (m.length : Int)) = true := by simp; omega
    have HE := hid (show (l == m) = false by
      simp only [beq_eq_false_iff_ne]
      intro e
      exact hlen (by rw [e]))
    clear hlen
    go_enter Try.func28, Try.ntmps28
    go_wp2_with (first
      | ((first
          | ((with_reducible apply wpL_skip); rfl; skip)
          | ((with_reducible apply wpL_nilCheck); rfl; rfl)
          | ((with_reducible apply wpL_loadArr (t := 34) kA34 HH.out); rfl; (first | exact .here | exact .there .here | exact .there (.there .here) | exact .there (.there (.there .here)) | exact .there (.there (.there (.there .here))) | exact .there (.there (.there (.there (.there .here)))) | exact .there (.there (.there (.there (.there (.there .here))))) | exact .there (.there (.there (.there (.there (.there (.there .here))))))); rfl)
          | ((with_reducible apply wpL_loadC (t := 34) kA34 HH.out); rfl; (first | exact .here | exact .there .here | exact .there (.there .here) | exact .there (.there (.there .here)) | exact .there (.there (.there (.there .here))) | exact .there (.there (.there (.there (.there .here)))) | exact .there (.there (.there (.there (.there (.there .here))))) | exact .there (.there (.there (.there (.there (.there (.there .here))))))); (first | rfl | exact Arr.len _ | (simp; done)); rfl)
          | ((with_reducible apply wpL_loadArr (t := 41) kA41 HH.out); rfl; (first | exact .here | exact .there .here | exact .there (.there .here) | exact .there (.there (.there .here)) | exact .there (.there (.there (.there .here))) | exact .there (.there (.there (.there (.there .here)))) | exact .there (.there (.there (.there (.there (.there .here))))) | exact .there (.there (.there (.there (.there (.there (.there .here))))))); rfl)
          | ((with_reducible apply wpL_loadC (t := 41) kA41 HH.out); rfl; (first | exact .here | exact .there .here | exact .there (.there .here) | exact .there (.there (.there .here)) | exact .there (.there (.there (.there .here))) | exact .there (.there (.there (.there (.there .here)))) | exact .there (.there (.there (.there (.there (.there .here))))) | exact .there (.there (.there (.there (.there (.there (.there .here))))))); (first | rfl | exact Arr.len _ | (simp; done)); rfl)
          | ((with_reducible apply wpL_len (t := 30) Try.underlying30); rfl; rfl)
          | ((with_reducible apply wpL_len (t := 46) Try.underlying46); rfl; rfl)
          | ((with_reducible apply wpL_move); rfl; rfl)
          | ((with_reducible apply wpL_assign); rfl; rfl)
          | ((with_reducible apply wpL_pick); rfl; rfl; rfl)
          | ((with_reducible apply wpL_not); rfl; rfl)
          | ((with_reducible apply wpL_cmp (b := true)); rfl; rfl; rfl; (first | rfl | assumption | (simp only [cmpB, decide_eq_true_eq, decide_eq_false_iff_not, beq_iff_eq, bne_iff_ne, ne_eq, beq_eq_false_iff_ne, bne_eq_false_iff_eq, gt_iff_lt, ge_iff_le]; omega) | (simp; omega)); rfl)
          | ((with_reducible apply wpL_cmp (b := false)); rfl; rfl; rfl; (first | rfl | assumption | (simp only [cmpB, decide_eq_true_eq, decide_eq_false_iff_not, beq_iff_eq, bne_iff_ne, ne_eq, beq_eq_false_iff_ne, bne_eq_false_iff_eq, gt_iff_lt, ge_iff_le]; omega) | (simp; omega)); rfl)
          | ((with_reducible apply wpL_cmp); rfl; rfl; rfl; rfl; rfl)
          | ((with_reducible apply wpL_arith); rfl; rfl; rfl; (exact IntWalk.i64_in _ (by (try simp only [arithI]); omega)); rfl)); (try simp only [arithI, Act.put, Act.eval, List.setIfInBounds_toArray, List.set_cons_succ, List.set_cons_zero, Array.getD_eq_getD_getElem?, List.getElem?_toArray, List.getElem?_cons_succ, List.getElem?_cons_zero, Option.getD_some])))
    go_ret
    exact RetB.mk HE.out.symm HH.out.below
end Go.Proofs.Ytgkfopodhikckaa

/- Height and Node of the reference. Condition: at most 10^9 nodes. -/
namespace Go.Proofs.Ytgkfopodhikckaa
open Go.RowKit
attribute [local irreducible] wpQuiet wpList
def RetH (w : World) (h : Nat) (c : Int) (e : Ending) (w' : World) : Prop := e = .returned (.tuple #[.int .i64 (h : Int), .int .i64 c]) ∧ Below w.heap.size w w'
theorem RetH.mk {w w' : World} {h k : Nat} {b c : Int} {q : Int} (hq : q = (k : Int)) (hk : k = h) (hb : b = c) (hw : Below w.heap.size w w') : RetH w h c (.returned (.tuple #[.int .i64 q, .int .i64 b])) w' := ⟨by rw [hq, hk, hb], hw⟩
end Go.Proofs.Ytgkfopodhikckaa

/- Node and Root of the reference. Condition: at most 10^9 nodes. -/
namespace Go.Proofs.Ytgkfopodhikckaa
open Go.RowKit
attribute [local irreducible] wpQuiet wpList
end Go.Proofs.Ytgkfopodhikckaa

/- Root of the reference. Condition: at most 10^9 nodes. -/
namespace Go.Proofs.Ytgkfopodhikckaa
open Go.RowKit
attribute [local irreducible] wpQuiet wpList
theorem BZ41 (w : World) : (Instr.build 41 #[]).run Try.prog w = .ok Nd0.val w := by kernel_rfl
end Go.Proofs.Ytgkfopodhikckaa

/- Path of the reference. Condition: at most 10^9 nodes. -/
namespace Go.Proofs.Ytgkfopodhikckaa
open Go.RowKit
attribute [local irreducible] wpQuiet wpList
end Go.Proofs.Ytgkfopodhikckaa

/- climb of merkle (under way). -/
namespace Go.Proofs.Ytgkfopodhikckaa
open Go.RowKit
attribute [local irreducible] wpQuiet wpList
/-- Left and right by bit k of the index. -/
def pairC (i k : Nat) (c s : Nd) : Nd × Nd := if (i / 2 ^ k) % 2 = 1 then (s, c) else (c, s)
/-- The node after k steps. -/
def curAt (i : Nat) (x : Nd) (p : List Nd) : Nat → Nd
  | 0 => x
  | k + 1 => joinN ((k + 1 : Nat) : Int) (pairC i k (curAt i x p k) (p.getD k Nd0)).1 (pairC i k (curAt i x p k) (p.getD k Nd0)).2
end Go.Proofs.Ytgkfopodhikckaa

/- One operation of a drawn region by what is listed: alloc, load, store of the call's own variables. No condition. -/
namespace Go.Proofs.Ytgkfopodhikckaa
open Go.RowKit
section
variable {P : Program} {w0 w : World} {S : List Nat} {bs bs' : List (Nat × Obj)} {rows : List Row} {a : Act} {dst : Option Tmp} {ty : TypeId} {pos : String} {after : Array Edge} {guard : Option (Nat × Bool)} {R : Value → World → Prop}
theorem Holds.permB (h : Holds w0 S bs rows w) (hp : bs.Perm bs') : Holds w0 S bs' rows w :=
  ⟨h.os, h.tape, h.output, h.size, h.old, fun p hp' => h.blk p (hp.mem_iff.2 hp'), fun p hp' => h.frs p (hp.mem_iff.2 hp'), h.row, (List.Perm.nodup_iff (List.Perm.append_right _ (hp.map _))).1 h.sep, h.inS⟩
theorem ok_alloc {e : TypeId} {zs : List Value} (hz : (P.info? e).map (·.zero) = some (some (.agg zs.toArray))) (hH : Holds w0 S bs rows w)
    (h : ∀ g w', Holds w0 S ((g, objC zs e) :: bs) rows w' → R (.pointer (some ⟨g, 0, none⟩)) w') :
    OpOK P { dst := dst, op := .alloc e, type := ty, pos := pos, after := after, guard := guard } a w R := by
  have hr : (execOp a.eval { dst := dst, op := .alloc e, type := ty, pos := pos, after := after, guard := guard }).run P w = .ok (.value (.pointer (some ⟨w.heap.size, 0, none⟩))) (w.alloc (objC zs e)) := by
    simp only [execOp, Instr.alloc, Sem.run_bind, run_zeroValue hz, Result.andThen_ok, newVar, newRow, run_newObj, Sem.run_pure]
    rfl
  unfold OpOK
  rw [hr]
  exact h _ _ (hH.alloc _)
theorem ok_load {t : TypeId} {n : Nat} (hA : AggT P t n) (hH : Holds w0 S bs rows w) {x : Operand} {g : Nat} {cs : List Value} {e : TypeId}
    (hx : a.eval x = .pointer (some ⟨g, 0, none⟩)) (ho : Own bs g (objC cs e)) (hl : cs.length = n) (h : R (.agg cs.toArray) w) :
    OpOK P { dst := dst, op := .load t x, type := ty, pos := pos, after := after, guard := guard } a w R := by
  have hr := ex_loadPart (dst := dst) (ty := ty) (pos := pos) (after := after) (guard := guard) (ρ := a.eval) hA hH hx ho (j := 0) (vs := cs) (by rw [List.drop_zero, ← hl, List.take_length]) hl
  unfold OpOK
  rw [hr]
  exact h
theorem ok_store {t : TypeId} {x y : Operand} {g : Nat} {vs cs : List Value} {sz : Nat} {e : TypeId}
    (hx : a.eval x = .pointer (some ⟨g, 0, none⟩)) (hy : a.eval y = .agg vs.toArray) (hi : (P.info? t).map (·.size) = some sz)
    (hH : Holds w0 S bs rows w) (ht : Turn bs g (objC cs e) (objC vs e) bs') (hv : vs.length = sz) (h1 : ∀ u ∈ vs, u.oneCell' = true) (hc : cs.length = sz)
    (h : ∀ w', Holds w0 S bs' rows w' → R undef w') :
    OpOK P { dst := dst, op := .store t x y, type := ty, pos := pos, after := after, guard := guard } a w R := by
  have hblk : w.heap[g]? = some (.cells cs.toArray e (0, 0)) := hH.at ht.own
  have hs := run_storeCells_at P g 0 e vs 0 cs.toArray w hblk (by simp; omega) h1
  have hdr : cs.drop sz = [] := List.drop_eq_nil_of_le (by omega)
  simp only [Nat.add_zero, hv, Nat.zero_add, List.take_zero, List.nil_append, hdr, List.append_nil] at hs
  have hvz : (Value.agg vs.toArray).cells.size = sz := by simpa [Value.cells] using hv
  have hcl : (Value.agg vs.toArray).cells.toList = vs := by simp [Value.cells]
  have hr : (execOp a.eval { dst := dst, op := .store t x y, type := ty, pos := pos, after := after, guard := guard }).run P w = .ok .skip (w.setRow g vs.toArray) := by
    simp only [execOp, hx, hy, Instr.storeAt, Instr.sureAddr, storeVar, Sem.run_bind, Sem.run_pure, Result.andThen_ok, run_sizeOf hi, hvz, hcl, ne_eq, not_true_eq_false, if_false, hs]
  unfold OpOK
  rw [hr]
  exact h _ (hH.turn ht (setRow_heap w g cs.toArray _ e (0, 0) hblk) rfl rfl rfl (by simp) fun k _ hk => setRow_other w g k _ hk)
end
end Go.Proofs.Ytgkfopodhikckaa

/- A region that draws its order and that writes the call's own variables: what is held hangs on what is listed and on the slots. Over any program; no condition. -/
namespace Go.Proofs.Ytgkfopodhikckaa
open Go.RowKit
/-- One more is listed. -/
def upd (l : Nat → Bool) (i : Nat) : Nat → Bool := fun j => if j = i then true else l j
/-- A slot is written. -/
def updS (s : Nat → Value) (d : Nat) (v : Value) : Nat → Value := fun t => if t = d then v else s t
def stepS (o : Oper) (s : Nat → Value) (v : Value) : Nat → Value := match o.dst with | some d => updS s d v | none => s
/-- The slots. -/
def slF (a : Act) : Nat → Value := fun t => a.tmps.getD t undef
theorem slF_put {a : Act} {o : Oper} {v : Value} (h : ∀ d, o.dst = some d → d < a.tmps.size) : slF (a.put o.dst v) = stepS o (slF a) v := by
  funext t
  unfold slF stepS
  cases hd : o.dst with
  | none => rfl
  | some d =>
    simp only [updS]
    by_cases ht : t = d
    · subst ht; rw [if_pos rfl]; exact getD_put_self (h _ hd)
    · rw [if_neg ht]; exact getD_put_ne (Ne.symm ht)
def lsF (li : Array Bool) : Nat → Bool := fun i => li.getD i true
theorem lsF_set {li : Array Bool} {i : Nat} (h : i < li.size) : lsF (li.setIfInBounds i true) = upd (lsF li) i := by
  funext j
  unfold lsF upd
  by_cases hj : j = i
  · subst hj; rw [if_pos rfl]; exact getD_set_self h true
  · rw [if_neg hj]; exact getD_set_ne' (Ne.symm hj) true
/-- What is listed is closed under the edges that bind. -/
def closedF (ops : Array Oper) (l : Nat → Bool) : Prop := ∀ i o, ops[i]? = some o → l i = true → ∀ e ∈ o.after, Region.binds .any e = true → l e.on = true
def SatF (ops : Array Oper) (V : Nat → Value → Prop) (a : Act) (i : Nat) : Prop := ∀ o, ops[i]? = some o → V i (match o.dst with | some d => a.tmps.getD d undef | none => undef)
section
variable {P : Program} {w0 w : World} {S : List Nat} {a0 : Act} {Q : Exit → Act → World → Prop} {ops : Array Oper}
structure InvF (ops : Array Oper) (a0 : Act) (J : (Nat → Bool) → (Nat → Value) → World → Prop) (V : Nat → Value → Prop) (li : Array Bool) (a : Act) (w : World) : Prop where
  inv : J (lsF li) (slF a) w
  cl : closedF ops (lsF li)
  def_ : a.defers = a0.defers
  size : a.tmps.size = a0.tmps.size
  fr : ∀ t, (∀ i o, ops[i]? = some o → li.getD i false = true → o.dst ≠ some t) → a.tmps.getD t undef = a0.tmps.getD t undef
  sat : ∀ i, li.getD i false = true → SatF ops V a i
theorem InvF.frD {J : (Nat → Bool) → (Nat → Value) → World → Prop} {V : Nat → Value → Prop} {li : Array Bool} {a : Act} (h : InvF ops a0 J V li a w) : FrD ops a0 a :=
  ⟨h.def_, h.size, fun t ht => h.fr t fun i o ho _ => ht i o ho⟩
theorem wpAny_F {J : (Nat → Bool) → (Nat → Value) → World → Prop} {V : Nat → Value → Prop} (hsh : shapeD a0.tmps.size ops = true)
    (hstep : ∀ i o, ops[i]? = some o → ∀ l a w, closedF ops l → l i = false → J l (slF a) w → FrD ops a0 a → (∀ e ∈ o.after, Region.binds .any e = true → l e.on = true ∧ SatF ops V a e.on) →
      if Region.wanted o (yielded ops a.tmps) then OpOK P o a w (fun v w' => J (upd l i) (stepS o (slF a) v) w' ∧ V i (slotD o v)) else J (upd l i) (stepS o (slF a) undef) w ∧ V i undef)
    (hend : ∀ l a w, (∀ i, l i = true) → J l (slF a) w → FrD ops a0 a → (∀ i, i < ops.size → SatF ops V a i) → Q .normal a w) :
    ∀ (fuel : Nat) (li : Array Bool) (a : Act) (w : World), li.size = ops.size → li.toList.count false ≤ fuel → InvF ops a0 J V li a w → wpAny P .any ops Q fuel li a w := by
  have hall : ∀ (li : Array Bool), li.size = ops.size → Region.ready .any ops li = [] → ∀ i, i < ops.size → li.getD i false = true := by
    intro li hsz hr i
    induction i using Nat.strongRecOn with
    | ind i ih =>
      intro hi
      by_cases h : li.getD i false = true
      · exact h
      · exfalso
        have hm : i ∈ Region.ready .any ops li := by
          refine mem_ready.2 ⟨?_, ops[i], by simp [hi], fun e he hb => ?_⟩
          · simp [hsz, hi] at h ⊢; exact h
          · have := shapeD_back hsh (i := i) (o := ops[i]) (by simp [hi]) e he hb
            exact ih e.on this (by omega)
        rw [hr] at hm
        cases hm
  have htrue : ∀ (li : Array Bool), li.size = ops.size → (∀ i, i < ops.size → li.getD i false = true) → ∀ i, lsF li i = true := by
    intro li hsz h i
    unfold lsF
    by_cases hi : i < ops.size
    · have := h i hi
      have hi' : i < li.size := by omega
      simpa [hi'] using this
    · have hi' : ¬ i < li.size := by omega
      simp [hi']
  intro fuel
  induction fuel with
  | zero =>
    intro li a w hsz hc hinv
    have hnone : ∀ i, i < ops.size → li.getD i false = true := by
      intro i hi
      have hi' : i < li.size := by omega
      have hb : li[i] ≠ false := by
        intro e
        have : false ∈ li.toList := by rw [← e]; simp
        have := List.count_pos_iff.2 this
        omega
      simp [hi', hb]
    refine ⟨?_, hend _ a w (htrue li hsz hnone) hinv.inv hinv.frD fun i hi => hinv.sat i (hnone i hi)⟩
    rw [List.eq_nil_iff_forall_not_mem]
    intro j hj
    obtain ⟨h1, o, ho, _⟩ := mem_ready.1 hj
    have hlt : j < ops.size := (Array.getElem?_eq_some_iff.1 ho).1
    have h2 := hnone j hlt
    have hj' : j < li.size := by omega
    simp [hj'] at h1 h2
    rw [h1] at h2
    cases h2
  | succ fuel ih =>
    intro li a w hsz hc hinv
    refine ⟨fun hr => hend _ a w (htrue li hsz (hall li hsz hr)) hinv.inv hinv.frD fun i hi => hinv.sat i (hall li hsz hr i hi), fun i hi => ?_⟩
    obtain ⟨h1, o, ho, hdeps⟩ := mem_ready.1 hi
    have hlt : i < ops.size := (Array.getElem?_eq_some_iff.1 ho).1
    have hlt' : i < li.size := by omega
    have hfalse : li[i] = false := by simpa [hlt'] using h1
    have hdt : ∀ e ∈ o.after, Region.binds .any e = true → lsF li e.on = true := by
      intro e he hb
      have h3 := hdeps e he hb
      have h4 : e.on < i := shapeD_back hsh ho e he hb
      have h5 : e.on < li.size := by omega
      unfold lsF
      simpa [h5] using h3
    have hs := hstep i o ho (lsF li) a w hinv.cl (by unfold lsF; simpa [hlt'] using hfalse) hinv.inv hinv.frD fun e he hb => ⟨hdt e he hb, hinv.sat e.on (hdeps e he hb)⟩
    have hcount : (li.setIfInBounds i true).toList.count false ≤ fuel := by
      rw [Array.toList_setIfInBounds, List.count_set (by simpa using hlt')]
      have : false ∈ li.toList := by rw [← hfalse]; simp
      have := List.count_pos_iff.2 this
      have e1 : li.toList[i]'(by simpa using hlt') = false := by simpa using hfalse
      rw [e1]
      have e2 : ((true : Bool) == false) = false := rfl
      simp only [beq_self_eq_true, if_true, e2, Bool.false_eq_true, if_false]
      omega
    have hdl : ∀ d, o.dst = some d → d < a.tmps.size := fun d hd => by rw [hinv.size]; exact shapeD_lt hsh ho hd
    have next : ∀ v w', J (upd (lsF li) i) (stepS o (slF a) v) w' → V i (slotD o v) → InvF ops a0 J V (li.setIfInBounds i true) (a.put o.dst v) w' := by
      intro v w' hJ hA
      refine ⟨by rw [lsF_set hlt', slF_put hdl]; exact hJ, ?_, by rw [defers_put]; exact hinv.def_, by rw [size_put]; exact hinv.size, ?_, ?_⟩
      · rw [lsF_set hlt']
        intro j oj hj hlj e he hb
        unfold upd at hlj ⊢
        by_cases hji : j = i
        · subst hji; rw [ho] at hj; cases hj
          split
          · rfl
          · exact hdt e he hb
        · rw [if_neg hji] at hlj
          split
          · rfl
          · exact hinv.cl j oj hj hlj e he hb
      · intro t ht
        have hne : o.dst ≠ some t := ht i o ho (getD_set_self hlt' false)
        have e1 : (a.put o.dst v).tmps.getD t undef = a.tmps.getD t undef := by
          cases hd : o.dst with
          | none => rfl
          | some d => exact getD_put_ne (by intro e; exact hne (by rw [hd, e]))
        rw [e1]
        exact hinv.fr t fun j oj hj hlj => by
          by_cases hij : i = j
          · subst hij; rw [ho] at hj; cases hj; exact hne
          · exact ht j oj hj (by rw [getD_set_ne' hij]; exact hlj)
      · intro j hj
        by_cases hij : i = j
        · subst hij
          intro oj hoj
          rw [ho] at hoj; cases hoj
          unfold slotD at hA
          cases hd : o.dst with
          | none => rw [hd] at hA; exact hA
          | some d =>
            simp only [getD_put_self (hdl d hd)]
            rw [hd] at hA
            exact hA
        · rw [getD_set_ne' hij] at hj
          intro oj hoj
          have h3 := hinv.sat j hj oj hoj
          have hval : (match oj.dst with | some d => (a.put o.dst v).tmps.getD d undef | none => undef) = (match oj.dst with | some d => a.tmps.getD d undef | none => undef) := by
            cases hd : o.dst with
            | none => rfl
            | some d =>
              cases hdj : oj.dst with
              | none => rfl
              | some d' =>
                have := shapeD_ne hsh ho hoj hij hd
                rw [hdj] at this
                exact getD_put_ne (by intro e; exact this (by rw [e]))
          rw [hval]
          exact h3
    unfold wpOp
    simp only [ho]
    by_cases hw : Region.wanted o (yielded ops a.tmps) = true
    · rw [if_pos hw] at hs ⊢
      exact .inl (hs.wp fun v w' ⟨hI, hA⟩ => ih _ _ _ (by simpa using hsz) hcount (next v w' hI hA))
    · rw [if_neg hw] at hs ⊢
      exact ih _ _ _ (by simpa using hsz) hcount (next undef w hs.1 (by unfold slotD; split <;> exact hs.2))
/-- The end, by the slots' values. -/
theorem putsD_of {l : List Oper} {a : Act} (hsh : shapeD a0.tmps.size l.toArray = true) (hF : FrD l.toArray a0 a) :
    a = putsD a0 l (l.map fun (o : Oper) => match o.dst with | some d => a.tmps.getD d undef | none => undef) := by
  let vs : List Value := l.map fun (o : Oper) => match o.dst with | some d => a.tmps.getD d undef | none => undef
  have hvl : vs.length = l.length := by simp [vs]
  show a = putsD a0 l vs
  have h1 : a.tmps = (putsD a0 l vs).tmps := by
    apply Array.ext
    · rw [putsD_size, hF.2.1]
    · intro t ht1 ht2
      have key : a.tmps.getD t undef = (putsD a0 l vs).tmps.getD t undef := by
        by_cases hex : ∃ (i : Nat) (o : Oper), l[i]? = some o ∧ o.dst = some t
        · obtain ⟨i, o, ho, hd⟩ := hex
          have hlt : t < a0.tmps.size := shapeD_lt hsh (i := i) (o := o) (by simpa using ho) hd
          refine (putsD_at l vs a0 i t o (a.tmps.getD t undef) hvl.symm ho ?_ hd hlt fun j o' hj ho' => ?_).symm
          · simp [vs, ho, hd]
          · exact shapeD_ne hsh (i := i) (j := j) (o := o) (o' := o') (by simpa using ho) (by simpa using ho') (Ne.symm hj) hd
        · rw [putsD_get l vs a0 t hvl.symm fun o ho hd => hex ?_]
          · exact hF.2.2 t fun i o ho hd => hex ⟨i, o, by simpa using ho, hd⟩
          · obtain ⟨j, hj, e⟩ := List.mem_iff_getElem.1 ho
            exact ⟨j, o, by rw [List.getElem?_eq_getElem hj, e], hd⟩
      simpa [ht1, ht2] using key
  have h2 : a.defers = (putsD a0 l vs).defers := by rw [putsD_defers, hF.1]
  cases a
  generalize hp : putsD a0 l vs = b at *
  cases b
  simp_all
/-- The slots behind the region. -/
def stepsS : List Oper → (Nat → Value) → List Value → (Nat → Value)
  | o :: l, s, v :: vs => stepsS l (stepS o s v) vs
  | _, s, _ => s
theorem slF_putsD : ∀ (l : List Oper) (vs : List Value) (a : Act), (∀ o ∈ l, ∀ d, o.dst = some d → d < a.tmps.size) → slF (putsD a l vs) = stepsS l (slF a) vs
  | [], vs, a, _ => by cases vs <;> rfl
  | o :: l, [], a, _ => rfl
  | o :: l, v :: vs, a, h => by
    have ih := slF_putsD l vs (a.put o.dst v) fun o' ho' d hd => by rw [size_put]; exact h o' (List.mem_cons_of_mem _ ho') d hd
    rw [slF_put (h o List.mem_cons_self)] at ih
    exact ih
/-- What operation i of the region has to show. -/
def ShowF (P : Program) (l : List Oper) (a0 : Act) (J : (Nat → Bool) → (Nat → Value) → World → Prop) (V : List (Value → Prop)) (i : Nat) (o : Oper) : Prop :=
  ∀ li a w, closedF l.toArray li → li i = false → J li (slF a) w → FrD l.toArray a0 a → (∀ e ∈ o.after, Region.binds .any e = true → li e.on = true ∧ SatF l.toArray (fun i => V.getD i fun _ => True) a e.on) →
    if Region.wanted o (yielded l.toArray a.tmps) then OpOK P o a w (fun v w' => J (upd li i) (stepS o (slF a) v) w' ∧ (V.getD i fun _ => True) (slotD o v)) else J (upd li i) (stepS o (slF a) undef) w ∧ (V.getD i fun _ => True) undef
/-- What holds behind the region: the slots' values, one by one. -/
def endF : List (Value → Prop) → (List Value → Prop) → Prop
  | [], Q => Q []
  | A :: L, Q => ∀ v, A v → endF L fun vs => Q (v :: vs)
theorem endF_get : ∀ (L : List (Value → Prop)) (Q : List Value → Prop), endF L Q → ∀ vs : List Value, vs.length = L.length → (∀ i v, vs[i]? = some v → (L.getD i fun _ => True) v) → Q vs
  | [], Q, h, vs, hl, _ => by
    have : vs = [] := List.eq_nil_of_length_eq_zero (by simpa using hl)
    subst this; exact h
  | A :: L, Q, h, vs, hl, hs => by
    cases vs with
    | nil => simp at hl
    | cons v vs =>
      exact endF_get L (fun vs => Q (v :: vs)) (h v (hs 0 v rfl)) vs (by simpa using hl) fun i u hu => by
        have := hs (i + 1) u (by simpa using hu)
        simpa using this
theorem wp_region_F {id : Nat} {l : List Oper} (V : List (Value → Prop)) (J : (Nat → Bool) → (Nat → Value) → World → Prop) (hm : P.follows .mixedOrders = true)
    (hsh : shapeD a0.tmps.size l.toArray = true) (hlen : V.length = l.length) (h0 : J (fun i => decide (l.length ≤ i)) (slF a0) w.drew)
    (hstep : eachD (ShowF P l a0 J V) 0 l)
    (hend : endF V fun vs => ∀ w', J (fun _ => true) (stepsS l (slF a0) vs) w' → Q .normal (putsD a0 l vs) w') : (Code.region id l.toArray true).wp P Q a0 w := by
  refine wp_region_any hm ?_
  refine wpAny_F (J := J) (V := fun i => V.getD i fun _ => True) hsh (fun i o ho li a w1 hc hi hJ hF hS => ?_) (fun li a w1 hl hJ hF hS => ?_) _ _ _ _ (by simp) ?_ ⟨?_, ?_, rfl, rfl, fun _ _ => rfl, fun i hi => ?_⟩
  · have := eachD_get _ l 0 hstep i o (by simpa using ho) li a w1 hc (by rw [Nat.zero_add]; exact hi) hJ hF hS
    rw [Nat.zero_add] at this
    exact this
  · have e : li = fun _ => true := funext hl
    subst e
    have hp := putsD_of hsh hF
    have hend' := endF_get V _ hend (l.map fun (o : Oper) => match o.dst with | some d => a.tmps.getD d undef | none => undef) (by rw [List.length_map, hlen]) (fun i v hv => by
      have hi : i < l.length := by
        have := (List.getElem?_eq_some_iff.1 hv).1
        simpa using this
      have h3 := hS i (by simpa using hi) l[i] (by simp [hi])
      simp only [List.getElem?_map, List.getElem?_eq_getElem hi, Option.map_some, Option.some.injEq] at hv
      rw [← hv]; exact h3) w1
    rw [← slF_putsD l _ a0 (fun o ho d hd => by
      obtain ⟨j, hj, e⟩ := List.mem_iff_getElem.1 ho
      exact shapeD_lt hsh (i := j) (o := o) (by simp [hj, e]) hd), ← hp] at hend'
    exact hend' hJ
  · rw [Array.toList_replicate, List.count_replicate_self]; exact Nat.le_refl _
  · have e : lsF (Array.replicate l.toArray.size false) = fun i => decide (l.length ≤ i) := by
      funext i
      unfold lsF
      by_cases hi : i < l.length
      · have : ¬ l.length ≤ i := by omega
        simp [hi, this]
      · have : l.length ≤ i := by omega
        simp [hi, this]
    rw [e]; exact h0
  · intro i o ho hl
    exfalso
    unfold lsF at hl
    have hi : i < l.length := by
      have := (Array.getElem?_eq_some_iff.1 ho).1
      simpa using this
    simp [hi] at hl
  · exfalso
    rw [Array.getD_eq_getD_getElem?, Array.getElem?_replicate] at hi
    split at hi <;> simp at hi
/-- The block that a pointer names. -/
def blkF : Value → Nat
  | .pointer (some ad) => ad.block
  | _ => 0
/-- Plain operations. -/
theorem opF_val {o : Oper} {a : Act} {v : Value} {J : (Nat → Value) → World → Prop} {A : Value → Prop} {d : Tmp} (hd : o.dst = some d) (hr : (execOp a.eval o).run P w = .ok (.value v) w) (hJ : J (updS (slF a) d v) w) (hA : A v) :
    OpOK P o a w (fun v w' => J (stepS o (slF a) v) w' ∧ A (slotD o v)) := by
  unfold OpOK
  rw [hr]
  unfold stepS slotD
  rw [hd]
  exact ⟨hJ, hA⟩
def isPtr (v : Value) : Prop := ∃ g, v = .pointer (some ⟨g, 0, none⟩)
def optB (b : Bool) (p : Nat × Obj) (l : List (Nat × Obj)) : List (Nat × Obj) := match b with | true => p :: l | false => l
def selO (b : Bool) (o o' : Obj) : Obj := match b with | true => o' | false => o
theorem optB_f (p : Nat × Obj) (l : List (Nat × Obj)) : optB false p l = l := rfl
theorem optB_t (p : Nat × Obj) (l : List (Nat × Obj)) : optB true p l = p :: l := rfl
theorem Own.opt {b : Bool} {p : Nat × Obj} {l : List (Nat × Obj)} {g : Nat} {o : Obj} (h : Own l g o) : Own (optB b p l) g o := by
  cases b with
  | true => exact .there h
  | false => exact h
theorem Turn.opt {b : Bool} {p : Nat × Obj} {l l' : List (Nat × Obj)} {g : Nat} {o o' : Obj} (h : Turn l g o o' l') : Turn (optB b p l) g o o' (optB b p l') := by
  cases b with
  | true => exact .there h
  | false => exact h
theorem optB_perm {b : Bool} {p q : Nat × Obj} {l : List (Nat × Obj)} : (q :: optB b p l).Perm (optB b p (q :: l)) := by
  cases b with
  | true => exact List.Perm.swap p q l
  | false => exact List.Perm.refl _
theorem closedF.off {l : Nat → Bool} {i j : Nat} (hc : closedF ops l) (hw : waits ops j i = true) (hi : l i = false) : l j = false := by
  cases hj : l j with
  | false => rfl
  | true =>
    exfalso
    unfold waits at hw
    cases ho : ops[j]? with
    | none => rw [ho] at hw; simp at hw
    | some o =>
      rw [ho] at hw
      simp only [Option.map_some, Option.getD_some, List.any_eq_true, Bool.and_eq_true, decide_eq_true_eq] at hw
      obtain ⟨e, he, hb, rfl⟩ := hw
      rw [hc j o ho hj e (Array.mem_toList_iff.1 he) hb] at hi
      cases hi
end
end Go.Proofs.Ytgkfopodhikckaa

/- climb of merkle. Condition: a path of at most ten nodes. -/
namespace Go.Proofs.Ytgkfopodhikckaa
open Go.RowKit
attribute [local irreducible] wpQuiet wpList
def ClimbRel (w0 : World) (S : List Nat) (bsOf : Nat → List (Nat × Obj)) (rows : List Row) (i : Nat) (x : Nd) (p : List Nd) (g4 g8 : Nat) (kv : Value) (wr : World) : Prop :=
  ∃ k : Nat, k ≤ p.length ∧ kv = .int .i64 k ∧ Holds w0 S ((g8, objC Nd0.cells 34) :: (g4, objC (curAt i x p k).cells 34) :: bsOf k) rows wr
def CJ4 (w0 : World) (S : List Nat) (bs : List (Nat × Obj)) (rows : List Row) (c s : Nd) (l : Nat → Bool) (sl : Nat → Value) (w : World) : Prop :=
  Holds w0 S (optB (l 2) (blkF (sl 11), selO (l 4) (objC Nd0.cells 34) (objC c.cells 34)) (optB (l 3) (blkF (sl 12), selO (l 5) (objC Nd0.cells 34) (objC s.cells 34)) bs)) rows w
def CJ6 (w0 : World) (S : List Nat) (bs : List (Nat × Obj)) (rows : List Row) (c s : Nd) (g11 g12 : Nat) (l : Nat → Bool) (sl : Nat → Value) (w : World) : Prop :=
  Holds w0 S ((g11, selO (l 2) (objC c.cells 34) (objC s.cells 34)) :: (g12, selO (l 3) (objC s.cells 34) (objC c.cells 34)) :: bs) rows w
section
variable {P : Program} {w0 w : World} {S : List Nat} {bs : List (Nat × Obj)} {rows : List Row} {c s : Nd} {l : Nat → Bool} {a : Act}
set_option maxRecDepth 100000 in
theorem cj4_2 {pos : String} {ty : TypeId} {after : Array Edge} {guard : Option (Nat × Bool)} (hJ : CJ4 w0 S bs rows c s l (slF a) w) (h2 : l 2 = false) (h4 : l 4 = false) :
    OpOK Try.prog { dst := some 11, op := .alloc 34, type := ty, pos := pos, after := after, guard := guard } a w (fun v w' => CJ4 w0 S bs rows c s (upd l 2) (updS (slF a) 11 v) w' ∧ isPtr v) := by
  unfold CJ4 at hJ
  rw [h2, optB_f] at hJ
  refine ok_alloc (zs := (Arr.zero 16).cells) kZ34 hJ (fun g w' h' => ?_)
  refine ⟨?_, ⟨g, rfl⟩⟩
  show Holds w0 S ((g, selO (l 4) _ _) :: optB (l 3) _ bs) rows w'
  rw [h4]
  exact h'
set_option maxRecDepth 100000 in
theorem cj4_3 {pos : String} {ty : TypeId} {after : Array Edge} {guard : Option (Nat × Bool)} (hJ : CJ4 w0 S bs rows c s l (slF a) w) (h3 : l 3 = false) (h5 : l 5 = false) :
    OpOK Try.prog { dst := some 12, op := .alloc 34, type := ty, pos := pos, after := after, guard := guard } a w (fun v w' => CJ4 w0 S bs rows c s (upd l 3) (updS (slF a) 12 v) w' ∧ isPtr v) := by
  unfold CJ4 at hJ
  rw [h3, optB_f] at hJ
  refine ok_alloc (zs := (Arr.zero 16).cells) kZ34 hJ (fun g w' h' => ?_)
  refine ⟨?_, ⟨g, rfl⟩⟩
  show Holds w0 S (optB (l 2) _ ((g, selO (l 5) _ _) :: bs)) rows w'
  rw [h5]
  exact h'.permB optB_perm
set_option maxRecDepth 100000 in
theorem cj4_4 {pos : String} {ty : TypeId} {after : Array Edge} {guard : Option (Nat × Bool)} (hJ : CJ4 w0 S bs rows c s l (slF a) w) (h2 : l 2 = true) (h4 : l 4 = false) (e1 : isPtr (a.eval (.tmp 11))) (e2 : a.eval (.tmp 20) = c.val) :
    OpOK Try.prog { dst := none, op := .store 34 (.tmp 11) (.tmp 20), type := ty, pos := pos, after := after, guard := guard } a w (fun v w' => CJ4 w0 S bs rows c s (upd l 4) (slF a) w' ∧ True) := by
  obtain ⟨g, hg⟩ := e1
  have hs : slF a 11 = .pointer (some ⟨g, 0, none⟩) := hg
  unfold CJ4 at hJ
  rw [h2, h4, hs] at hJ
  refine ok_store (vs := c.cells) (cs := Nd0.cells) (e := 34) hg e2 kS34 hJ .here (Arr.len _) (cells_one _) (Arr.len _) fun w' h' => ⟨?_, trivial⟩
  show Holds w0 S (optB (l 2) (blkF (slF a 11), _) (optB (l 3) _ bs)) rows w'
  rw [h2, hs]
  exact h'
set_option maxRecDepth 100000 in
theorem cj4_5 {pos : String} {ty : TypeId} {after : Array Edge} {guard : Option (Nat × Bool)} (hJ : CJ4 w0 S bs rows c s l (slF a) w) (h3 : l 3 = true) (h5 : l 5 = false) (e1 : isPtr (a.eval (.tmp 12))) (e2 : a.eval (.tmp 21) = s.val) :
    OpOK Try.prog { dst := none, op := .store 34 (.tmp 12) (.tmp 21), type := ty, pos := pos, after := after, guard := guard } a w (fun v w' => CJ4 w0 S bs rows c s (upd l 5) (slF a) w' ∧ True) := by
  obtain ⟨g, hg⟩ := e1
  have hs : slF a 12 = .pointer (some ⟨g, 0, none⟩) := hg
  unfold CJ4 at hJ
  rw [h3, h5, hs] at hJ
  refine ok_store (vs := s.cells) (cs := Nd0.cells) (e := 34) hg e2 kS34 hJ (Turn.opt .here) (Arr.len _) (cells_one _) (Arr.len _) fun w' h' => ⟨?_, trivial⟩
  show Holds w0 S (optB (l 2) _ (optB (l 3) (blkF (slF a 12), _) bs)) rows w'
  rw [h3, hs]
  exact h'
set_option maxRecDepth 100000 in
theorem cj6_2 {g11 g12 : Nat} {pos : String} {ty : TypeId} {after : Array Edge} {guard : Option (Nat × Bool)} (hJ : CJ6 w0 S bs rows c s g11 g12 l (slF a) w) (h2 : l 2 = false) (e1 : a.eval (.tmp 11) = .pointer (some ⟨g11, 0, none⟩)) (e2 : a.eval (.tmp 27) = s.val) :
    OpOK Try.prog { dst := none, op := .store 34 (.tmp 11) (.tmp 27), type := ty, pos := pos, after := after, guard := guard } a w (fun v w' => CJ6 w0 S bs rows c s g11 g12 (upd l 2) (slF a) w' ∧ True) := by
  unfold CJ6 at hJ
  rw [h2] at hJ
  exact ok_store (vs := s.cells) (cs := c.cells) (e := 34) e1 e2 kS34 hJ .here (Arr.len _) (cells_one _) (Arr.len _) fun w' h' => ⟨h', trivial⟩
set_option maxRecDepth 100000 in
theorem cj6_3 {g11 g12 : Nat} {pos : String} {ty : TypeId} {after : Array Edge} {guard : Option (Nat × Bool)} (hJ : CJ6 w0 S bs rows c s g11 g12 l (slF a) w) (h3 : l 3 = false) (e1 : a.eval (.tmp 12) = .pointer (some ⟨g12, 0, none⟩)) (e2 : a.eval (.tmp 28) = c.val) :
    OpOK Try.prog { dst := none, op := .store 34 (.tmp 12) (.tmp 28), type := ty, pos := pos, after := after, guard := guard } a w (fun v w' => CJ6 w0 S bs rows c s g11 g12 (upd l 3) (slF a) w' ∧ True) := by
  unfold CJ6 at hJ
  rw [h3] at hJ
  exact ok_store (vs := c.cells) (cs := s.cells) (e := 34) e1 e2 kS34 hJ (.there .here) (Arr.len _) (cells_one _) (Arr.len _) fun w' h' => ⟨h', trivial⟩
end
theorem curAt_succ (i : Nat) (x : Nd) (p : List Nd) (k : Nat) : curAt i x p (k + 1) = joinN ((k : Int) + 1) (pairC i k (curAt i x p k) (p.getD k Nd0)).1 (pairC i k (curAt i x p k) (p.getD k Nd0)).2 := rfl
set_option maxRecDepth 100000 in
set_option maxHeartbeats 4000000 in
theorem climb_any (w0 w : World) (S : List Nat) (bsOf : Nat → List (Nat × Obj)) (rows : List Row) (f : FuncId) (cap : Array Value) (hf : Body Try.prog f) (v : Value) (x : Nd) (p : List Nd) (i : Nat)
    (hp : ∀ bs w1, Holds w0 S bs rows w1 → Arrs w1 v p) (hlen : p.length ≤ 10) (hi : i ≤ 1024) (hH : Holds w0 S (bsOf 0) rows w)
    (hvis : ∀ k, k < p.length → ∀ ex w1, Holds w0 S (ex ++ bsOf k) rows w1 →
      Calls Try.prog f (#[.int .i64 ((k : Int) + 1), (pairC i k (curAt i x p k) (p.getD k Nd0)).1.val, (pairC i k (curAt i x p k) (p.getD k Nd0)).2.val] ++ cap) w1 (fun e w2 => e = .returned (.tuple #[]) ∧ Holds w0 S (ex ++ bsOf (k + 1)) rows w2)) :
    Calls Try.prog 73 #[x.val, .int .i64 i, v, .func (.func f) #[] cap] w (fun e w' => e = .returned (curAt i x p p.length).val ∧ Holds w0 S (bsOf p.length) rows w') := by
  obtain ⟨ao, cap0, rfl, _⟩ := (hp _ _ hH).shape
  have HP := hid hp
  have HV := hid hvis
  have HH := hid hH
  have HI := hid hi
  have HF := hid hf
  clear hp hvis hH
  go_enter Try.func73, Try.ntmps73
  go_wp2_with (first
    | ((first
        | ((with_reducible apply wpL_skip); rfl; skip)
        | ((with_reducible apply wpL_nilCheck); rfl; rfl)
        | ((with_reducible apply wpL_loadArr (t := 34) kA34 HH.out); rfl; (first | exact .here | exact .there .here | exact .there (.there .here) | exact .there (.there (.there .here)) | exact .there (.there (.there (.there .here))) | exact .there (.there (.there (.there (.there .here)))) | exact .there (.there (.there (.there (.there (.there .here))))) | exact .there (.there (.there (.there (.there (.there (.there .here))))))); rfl)
        | ((with_reducible apply wpL_loadC (t := 34) kA34 HH.out); rfl; (first | exact .here | exact .there .here | exact .there (.there .here) | exact .there (.there (.there .here)) | exact .there (.there (.there (.there .here))) | exact .there (.there (.there (.there (.there .here)))) | exact .there (.there (.there (.there (.there (.there .here))))) | exact .there (.there (.there (.there (.there (.there (.there .here))))))); (first | rfl | exact Arr.len _ | (simp; done)); rfl)
        | ((with_reducible apply wpL_len (t := 46) Try.underlying46); rfl; rfl)
        | ((with_reducible apply wpL_boxArr (dst := some 4)); rfl; (exact HH.out); rfl; (intro g4_ w_ hq_; (try simp only [List.set_cons_zero, List.set_cons_succ] at hq_); clear HH; have HH := hid hq_; clear hq_))
        | ((with_reducible apply wpL_allocC (dst := some 8) kZ34 HH.out); rfl; (intro g8_ w_ hq_; (try simp only [List.set_cons_zero, List.set_cons_succ] at hq_); clear HH; have HH := hid hq_; clear hq_))
        | ((with_reducible apply wpL_allocC (dst := some 10) kZ34 HH.out); rfl; (intro g10_ w_ hq_; (try simp only [List.set_cons_zero, List.set_cons_succ] at hq_); clear HH; have HH := hid hq_; clear hq_))
        | ((with_reducible apply wpL_allocC (dst := some 11) kZ34 HH.out); rfl; (intro g11_ w_ hq_; (try simp only [List.set_cons_zero, List.set_cons_succ] at hq_); clear HH; have HH := hid hq_; clear hq_))
        | ((with_reducible apply wpL_allocC (dst := some 12) kZ34 HH.out); rfl; (intro g12_ w_ hq_; (try simp only [List.set_cons_zero, List.set_cons_succ] at hq_); clear HH; have HH := hid hq_; clear hq_))
        | ((with_reducible apply wpL_storeArr (t := 34) kS34 HH.out); rfl; rfl; (first | exact .here | exact .there .here | exact .there (.there .here) | exact .there (.there (.there .here)) | exact .there (.there (.there (.there .here))) | exact .there (.there (.there (.there (.there .here)))) | exact .there (.there (.there (.there (.there (.there .here))))) | exact .there (.there (.there (.there (.there (.there (.there .here))))))); (first | rfl | exact Arr.len _ | (simp; done)); rfl; (intro w_ hq_; (try simp only [List.set_cons_zero, List.set_cons_succ] at hq_); clear HH; have HH := hid hq_; clear hq_))
        | ((with_reducible apply wpL_storeC (t := 34)); rfl; rfl; (exact kS34); (exact HH.out); (first | exact .here | exact .there .here | exact .there (.there .here) | exact .there (.there (.there .here)) | exact .there (.there (.there (.there .here))) | exact .there (.there (.there (.there (.there .here)))) | exact .there (.there (.there (.there (.there (.there .here))))) | exact .there (.there (.there (.there (.there (.there (.there .here))))))); (first | rfl | exact Arr.len _ | (simp; done)); (first | rfl | (intro u_ hu_; simp only [List.mem_cons, List.not_mem_nil, or_false] at hu_; rcases hu_ with rfl | hu_; rfl) | exact byt_cell1 _ | exact cells_one _ | exact wrd_one _ | exact flat_cell1 _); (first | rfl | exact Arr.len _ | (simp; done)); rfl; (intro w_ hq_; (try simp only [List.set_cons_zero, List.set_cons_succ] at hq_); clear HH; have HH := hid hq_; clear hq_))
        | ((with_reducible apply wpL_move); rfl; rfl)
        | ((with_reducible apply wpL_assign); rfl; rfl)
        | ((with_reducible apply wpL_pick); rfl; rfl; rfl)
        | ((with_reducible apply wpL_not); rfl; rfl)
        | ((with_reducible apply wpL_cmp (b := true)); rfl; rfl; rfl; (first | rfl | assumption | (simp only [cmpB, decide_eq_true_eq, decide_eq_false_iff_not, beq_iff_eq, bne_iff_ne, ne_eq, beq_eq_false_iff_ne, bne_eq_false_iff_eq, gt_iff_lt, ge_iff_le]; omega) | (simp; omega)); rfl)
        | ((with_reducible apply wpL_cmp (b := false)); rfl; rfl; rfl; (first | rfl | assumption | (simp only [cmpB, decide_eq_true_eq, decide_eq_false_iff_not, beq_iff_eq, bne_iff_ne, ne_eq, beq_eq_false_iff_ne, bne_eq_false_iff_eq, gt_iff_lt, ge_iff_le]; omega) | (simp; omega)); rfl)
        | ((with_reducible apply wpL_cmp); rfl; rfl; rfl; rfl; rfl)
        | ((with_reducible apply wpL_arith); rfl; rfl; rfl; (exact IntWalk.i64_in _ (by (try simp only [arithI]); omega)); rfl)); (try simp only [arithI, Act.put, Act.eval, List.setIfInBounds_toArray, List.set_cons_succ, List.set_cons_zero, Array.getD_eq_getD_getElem?, List.getElem?_toArray, List.getElem?_cons_succ, List.getElem?_cons_zero, Option.getD_some])))
  go_loopw [15] (ClimbRel w0 S bsOf rows i x p g4_ g8_) (fun kv _ => p.length - (intOf kv).toNat)
  case atStart => exact ⟨0, Nat.zero_le _, rfl, HH.out⟩
  case round =>
    obtain ⟨k, hk, rfl, hr⟩ := hrel
    clear HH
    have HH := hid hr
    clear hr
    by_cases hlt : k < p.length
    · obtain ⟨c, hc⟩ : ∃ c, curAt i x p k = c := ⟨_, rfl⟩
      obtain ⟨s, hs⟩ : ∃ s, p.getD k Nd0 = s := ⟨_, rfl⟩
      have hv := HV.out k hlt
      have hst := curAt_succ i x p k
      rw [hc, hs] at hv hst
      have hh := HH.out
      rw [hc] at hh
      clear HH
      have HH := hid hh
      clear hh hc
      have HS := hid hs
      obtain ⟨ad, cap', e⟩ := (HP.out _ _ HH.out).some (by omega)
      cases e
      have HAR := hid (fun w1 (h1 : ∃ bs, Holds w0 S bs rows w1) => get_as (show Arrs w1 (.slice (some ad) p.length cap0) p from HP.out _ _ h1.choose_spec) hlt (show p[k] = s by rw [← hs]; simp [hlt]))
      clear hs
      go_wp2_with (first
        | ((first
            | ((with_reducible apply wpL_skip); rfl; skip)
            | ((with_reducible apply wpL_idx (dst := some 18) (j := k) kE46); rfl; rfl; rfl; (exact hlt); rfl)
            | ((with_reducible apply wpL_loadEl (dst := some 19) (v := s) kA34 (HAR.out _ ⟨_, HH.out⟩)); rfl; rfl)
            | ((with_reducible apply wpL_nilCheck); rfl; rfl)
            | ((with_reducible apply wpL_loadArr (t := 34) kA34 HH.out); rfl; (first | exact .here | exact .there .here | exact .there (.there .here) | exact .there (.there (.there .here)) | exact .there (.there (.there (.there .here))) | exact .there (.there (.there (.there (.there .here)))) | exact .there (.there (.there (.there (.there (.there .here))))) | exact .there (.there (.there (.there (.there (.there (.there .here))))))); rfl)
            | ((with_reducible apply wpL_loadC (t := 34) kA34 HH.out); rfl; (first | exact .here | exact .there .here | exact .there (.there .here) | exact .there (.there (.there .here)) | exact .there (.there (.there (.there .here))) | exact .there (.there (.there (.there (.there .here)))) | exact .there (.there (.there (.there (.there (.there .here))))) | exact .there (.there (.there (.there (.there (.there (.there .here))))))); (first | rfl | exact Arr.len _ | (simp; done)); rfl)
            | ((with_reducible apply wpL_len (t := 46) Try.underlying46); rfl; rfl)
            | ((with_reducible apply wpL_boxArr (dst := some 4)); rfl; (exact HH.out); rfl; (intro g4_ w_ hq_; (try simp only [List.set_cons_zero, List.set_cons_succ] at hq_); clear HH; have HH := hid hq_; clear hq_))
            | ((with_reducible apply wpL_allocC (dst := some 8) kZ34 HH.out); rfl; (intro g8_ w_ hq_; (try simp only [List.set_cons_zero, List.set_cons_succ] at hq_); clear HH; have HH := hid hq_; clear hq_))
            | ((with_reducible apply wpL_allocC (dst := some 10) kZ34 HH.out); rfl; (intro g10_ w_ hq_; (try simp only [List.set_cons_zero, List.set_cons_succ] at hq_); clear HH; have HH := hid hq_; clear hq_))
            | ((with_reducible apply wpL_allocC (dst := some 11) kZ34 HH.out); rfl; (intro g11_ w_ hq_; (try simp only [List.set_cons_zero, List.set_cons_succ] at hq_); clear HH; have HH := hid hq_; clear hq_))
            | ((with_reducible apply wpL_allocC (dst := some 12) kZ34 HH.out); rfl; (intro g12_ w_ hq_; (try simp only [List.set_cons_zero, List.set_cons_succ] at hq_); clear HH; have HH := hid hq_; clear hq_))
            | ((with_reducible apply wpL_storeArr (t := 34) kS34 HH.out); rfl; rfl; (first | exact .here | exact .there .here | exact .there (.there .here) | exact .there (.there (.there .here)) | exact .there (.there (.there (.there .here))) | exact .there (.there (.there (.there (.there .here)))) | exact .there (.there (.there (.there (.there (.there .here))))) | exact .there (.there (.there (.there (.there (.there (.there .here))))))); (first | rfl | exact Arr.len _ | (simp; done)); rfl; (intro w_ hq_; (try simp only [List.set_cons_zero, List.set_cons_succ] at hq_); clear HH; have HH := hid hq_; clear hq_))
            | ((with_reducible apply wpL_storeC (t := 34)); rfl; rfl; (exact kS34); (exact HH.out); (first | exact .here | exact .there .here | exact .there (.there .here) | exact .there (.there (.there .here)) | exact .there (.there (.there (.there .here))) | exact .there (.there (.there (.there (.there .here)))) | exact .there (.there (.there (.there (.there (.there .here))))) | exact .there (.there (.there (.there (.there (.there (.there .here))))))); (first | rfl | exact Arr.len _ | (simp; done)); (first | rfl | (intro u_ hu_; simp only [List.mem_cons, List.not_mem_nil, or_false] at hu_; rcases hu_ with rfl | hu_; rfl) | exact byt_cell1 _ | exact cells_one _ | exact wrd_one _ | exact flat_cell1 _); (first | rfl | exact Arr.len _ | (simp; done)); rfl; (intro w_ hq_; (try simp only [List.set_cons_zero, List.set_cons_succ] at hq_); clear HH; have HH := hid hq_; clear hq_))
            | ((with_reducible apply wpL_move); rfl; rfl)
            | ((with_reducible apply wpL_assign); rfl; rfl)
            | ((with_reducible apply wpL_pick); rfl; rfl; rfl)
            | ((with_reducible apply wpL_not); rfl; rfl)
            | ((with_reducible apply wpL_cmp (b := true)); rfl; rfl; rfl; (first | rfl | assumption | (simp only [cmpB, decide_eq_true_eq, decide_eq_false_iff_not, beq_iff_eq, bne_iff_ne, ne_eq, beq_eq_false_iff_ne, bne_eq_false_iff_eq, gt_iff_lt, ge_iff_le]; omega) | (simp; omega)); rfl)
            | ((with_reducible apply wpL_cmp (b := false)); rfl; rfl; rfl; (first | rfl | assumption | (simp only [cmpB, decide_eq_true_eq, decide_eq_false_iff_not, beq_iff_eq, bne_iff_ne, ne_eq, beq_eq_false_iff_ne, bne_eq_false_iff_eq, gt_iff_lt, ge_iff_le]; omega) | (simp; omega)); rfl)
            | ((with_reducible apply wpL_cmp); rfl; rfl; rfl; rfl; rfl)
            | ((with_reducible apply wpL_arith); rfl; rfl; rfl; (exact IntWalk.i64_in _ (by (try simp only [arithI]); omega)); rfl)); (try simp only [arithI, Act.put, Act.eval, List.setIfInBounds_toArray, List.set_cons_succ, List.set_cons_zero, Array.getD_eq_getD_getElem?, List.getElem?_toArray, List.getElem?_cons_succ, List.getElem?_cons_zero, Option.getD_some])))
      refine wp_region_F [(fun u_ => u_ = c.val), (fun u_ => u_ = s.val), (isPtr), (isPtr), (fun _ => True), (fun _ => True)] (CJ4 w0 S ((g10_, objC s.cells 34) :: (g8_, objC Nd0.cells 34) :: (g4_, objC c.cells 34) :: bsOf k) rows c s) (by kernel_rfl) (by kernel_rfl) rfl (HH.out.drew) ?_ ?_
      · refine eachD_cons ?_ (eachD_cons ?_ (eachD_cons ?_ (eachD_cons ?_ (eachD_cons ?_ (eachD_cons ?_ (eachD_nil))))))
        · intro li_ a_ w1 hc hi hJ hF hS
          have e4 : a_.eval (.tmp 4) = (.pointer (some ⟨g4_, 0, none⟩)) := (hF.2.2 4 (notDst_of (by kernel_rfl))).trans rfl
          refine wantD (by rfl) ?_
          exact ok_load kA34 hJ e4 (Own.opt (Own.opt (.there (.there .here)))) (Arr.len _) ⟨hJ, rfl⟩
        · intro li_ a_ w1 hc hi hJ hF hS
          have e10 : a_.eval (.tmp 10) = (.pointer (some ⟨g10_, 0, none⟩)) := (hF.2.2 10 (notDst_of (by kernel_rfl))).trans rfl
          refine wantD (by rfl) ?_
          exact ok_load kA34 hJ e10 (Own.opt (Own.opt .here)) (Arr.len _) ⟨hJ, rfl⟩
        · intro li_ a_ w1 hc hi hJ hF hS
          refine wantD (by rfl) ?_
          exact cj4_2 hJ hi (hc.off (j := 4) (by kernel_rfl) hi)
        · intro li_ a_ w1 hc hi hJ hF hS
          refine wantD (by rfl) ?_
          exact cj4_3 hJ hi (hc.off (j := 5) (by kernel_rfl) hi)
        · intro li_ a_ w1 hc hi hJ hF hS
          have l2 : li_ 2 = true := (hS ⟨2, .data⟩ (by simp) rfl).1
          have l0 : li_ 0 = true := (hS ⟨0, .data⟩ (by simp) rfl).1
          have l3 : li_ 3 = true := (hS ⟨3, .phase⟩ (by simp) rfl).1
          have e11 : (isPtr) (a_.eval (.tmp 11)) := (hS ⟨2, .data⟩ (by simp) rfl).2 _ rfl
          have e20 : a_.eval (.tmp 20) = c.val := (hS ⟨0, .data⟩ (by simp) rfl).2 _ rfl
          refine wantD (by rfl) ?_
          exact cj4_4 hJ l2 hi e11 e20
        · intro li_ a_ w1 hc hi hJ hF hS
          have l3 : li_ 3 = true := (hS ⟨3, .data⟩ (by simp) rfl).1
          have l1 : li_ 1 = true := (hS ⟨1, .data⟩ (by simp) rfl).1
          have l4 : li_ 4 = true := (hS ⟨4, .chain⟩ (by simp) rfl).1
          have l0 : li_ 0 = true := (hS ⟨0, .phase⟩ (by simp) rfl).1
          have l2 : li_ 2 = true := (hS ⟨2, .phase⟩ (by simp) rfl).1
          have e12 : (isPtr) (a_.eval (.tmp 12)) := (hS ⟨3, .data⟩ (by simp) rfl).2 _ rfl
          have e21 : a_.eval (.tmp 21) = s.val := (hS ⟨1, .data⟩ (by simp) rfl).2 _ rfl
          refine wantD (by rfl) ?_
          exact cj4_5 hJ l3 hi e12 e21
      intro v0_ h0_ v1_ h1_ v2_ h2_ v3_ h3_ v4_ h4_ v5_ h5_
      intro wq hq_
      have q_ : v0_ = c.val := h0_; clear h0_; subst q_
      have q_ : v1_ = s.val := h1_; clear h1_; subst q_
      obtain ⟨g11_, rfl⟩ := h2_
      obtain ⟨g12_, rfl⟩ := h3_
      clear h4_
      clear h5_
      have HQ := hid hq_; clear hq_
      simp only [putsD, Act.put, List.setIfInBounds_toArray, List.set_cons_succ, List.set_cons_zero]
      have hq2_ : Holds w0 S ((g11_, objC c.cells 34) :: (g12_, objC s.cells 34) :: (g10_, objC s.cells 34) :: (g8_, objC Nd0.cells 34) :: (g4_, objC c.cells 34) :: bsOf k) rows wq := HQ.out
      clear HH HQ
      have HH := hid hq2_
      clear hq2_
      obtain ⟨q, hq1⟩ : ∃ q, i / 2 ^ k = q := ⟨_, rfl⟩
      have hq10 : q ≤ 1024 := by rw [← hq1]; exact Nat.le_trans (Nat.div_le_self _ _) hi
      have HQ1 := hid hq1
      have HB1 := hid (show q < 2 ^ IntKind.i64.bits from Nat.lt_of_lt_of_le (show q < 1025 by omega) (by decide))
      clear hq1
      by_cases hbit : (i / 2 ^ k) % 2 = 1
      · have hpair : pairC i k c s = (s, c) := by unfold pairC; rw [if_pos hbit]
        rw [hpair] at hv hst
        obtain ⟨c2, hc2⟩ : ∃ c2, joinN ((k : Int) + 1) s c = c2 := ⟨_, rfl⟩
        have HC2 := hid hc2
        have HST := hid (show curAt i x p (k + 1) = c2 by rw [hst]; exact hc2)
        have HVIS := hid hv
        have HAND := hid (show q &&& 1 = 1 by rw [Nat.and_one_is_mod, ← HQ1.out]; exact hbit)
        clear hpair hv hst hc2 hbit
        go_wp2_with (first
          | ((first
              | ((with_reducible apply wpL_skip); rfl; skip)
              | ((with_reducible apply wpL_shrI (m := i) (k := k) (r := q)); rfl; rfl; rfl; rfl; (exact (by omega)); (exact HQ1.out); rfl)
              | ((with_reducible apply wpL_and (m := q) (n := 1) (r := 1)); rfl; rfl; rfl; rfl; (exact HB1.out); (exact (by decide)); (exact HAND.out); (exact (by decide)); rfl)
              | ((with_reducible apply wpL_nilCheck); rfl; rfl)
              | ((with_reducible apply wpL_loadArr (t := 34) kA34 HH.out); rfl; (first | exact .here | exact .there .here | exact .there (.there .here) | exact .there (.there (.there .here)) | exact .there (.there (.there (.there .here))) | exact .there (.there (.there (.there (.there .here)))) | exact .there (.there (.there (.there (.there (.there .here))))) | exact .there (.there (.there (.there (.there (.there (.there .here))))))); rfl)
              | ((with_reducible apply wpL_loadC (t := 34) kA34 HH.out); rfl; (first | exact .here | exact .there .here | exact .there (.there .here) | exact .there (.there (.there .here)) | exact .there (.there (.there (.there .here))) | exact .there (.there (.there (.there (.there .here)))) | exact .there (.there (.there (.there (.there (.there .here))))) | exact .there (.there (.there (.there (.there (.there (.there .here))))))); (first | rfl | exact Arr.len _ | (simp; done)); rfl)
              | ((with_reducible apply wpL_len (t := 46) Try.underlying46); rfl; rfl)
              | ((with_reducible apply wpL_boxArr (dst := some 4)); rfl; (exact HH.out); rfl; (intro g4_ w_ hq_; (try simp only [List.set_cons_zero, List.set_cons_succ] at hq_); clear HH; have HH := hid hq_; clear hq_))
              | ((with_reducible apply wpL_allocC (dst := some 8) kZ34 HH.out); rfl; (intro g8_ w_ hq_; (try simp only [List.set_cons_zero, List.set_cons_succ] at hq_); clear HH; have HH := hid hq_; clear hq_))
              | ((with_reducible apply wpL_allocC (dst := some 10) kZ34 HH.out); rfl; (intro g10_ w_ hq_; (try simp only [List.set_cons_zero, List.set_cons_succ] at hq_); clear HH; have HH := hid hq_; clear hq_))
              | ((with_reducible apply wpL_allocC (dst := some 11) kZ34 HH.out); rfl; (intro g11_ w_ hq_; (try simp only [List.set_cons_zero, List.set_cons_succ] at hq_); clear HH; have HH := hid hq_; clear hq_))
              | ((with_reducible apply wpL_allocC (dst := some 12) kZ34 HH.out); rfl; (intro g12_ w_ hq_; (try simp only [List.set_cons_zero, List.set_cons_succ] at hq_); clear HH; have HH := hid hq_; clear hq_))
              | ((with_reducible apply wpL_storeArr (t := 34) kS34 HH.out); rfl; rfl; (first | exact .here | exact .there .here | exact .there (.there .here) | exact .there (.there (.there .here)) | exact .there (.there (.there (.there .here))) | exact .there (.there (.there (.there (.there .here)))) | exact .there (.there (.there (.there (.there (.there .here))))) | exact .there (.there (.there (.there (.there (.there (.there .here))))))); (first | rfl | exact Arr.len _ | (simp; done)); rfl; (intro w_ hq_; (try simp only [List.set_cons_zero, List.set_cons_succ] at hq_); clear HH; have HH := hid hq_; clear hq_))
              | ((with_reducible apply wpL_storeC (t := 34)); rfl; rfl; (exact kS34); (exact HH.out); (first | exact .here | exact .there .here | exact .there (.there .here) | exact .there (.there (.there .here)) | exact .there (.there (.there (.there .here))) | exact .there (.there (.there (.there (.there .here)))) | exact .there (.there (.there (.there (.there (.there .here))))) | exact .there (.there (.there (.there (.there (.there (.there .here))))))); (first | rfl | exact Arr.len _ | (simp; done)); (first | rfl | (intro u_ hu_; simp only [List.mem_cons, List.not_mem_nil, or_false] at hu_; rcases hu_ with rfl | hu_; rfl) | exact byt_cell1 _ | exact cells_one _ | exact wrd_one _ | exact flat_cell1 _); (first | rfl | exact Arr.len _ | (simp; done)); rfl; (intro w_ hq_; (try simp only [List.set_cons_zero, List.set_cons_succ] at hq_); clear HH; have HH := hid hq_; clear hq_))
              | ((with_reducible apply wpL_move); rfl; rfl)
              | ((with_reducible apply wpL_assign); rfl; rfl)
              | ((with_reducible apply wpL_pick); rfl; rfl; rfl)
              | ((with_reducible apply wpL_not); rfl; rfl)
              | ((with_reducible apply wpL_cmp (b := true)); rfl; rfl; rfl; (first | rfl | assumption | (simp only [cmpB, decide_eq_true_eq, decide_eq_false_iff_not, beq_iff_eq, bne_iff_ne, ne_eq, beq_eq_false_iff_ne, bne_eq_false_iff_eq, gt_iff_lt, ge_iff_le]; omega) | (simp; omega)); rfl)
              | ((with_reducible apply wpL_cmp (b := false)); rfl; rfl; rfl; (first | rfl | assumption | (simp only [cmpB, decide_eq_true_eq, decide_eq_false_iff_not, beq_iff_eq, bne_iff_ne, ne_eq, beq_eq_false_iff_ne, bne_eq_false_iff_eq, gt_iff_lt, ge_iff_le]; omega) | (simp; omega)); rfl)
              | ((with_reducible apply wpL_cmp); rfl; rfl; rfl; rfl; rfl)
              | ((with_reducible apply wpL_arith); rfl; rfl; rfl; (exact IntWalk.i64_in _ (by (try simp only [arithI]); omega)); rfl)); (try simp only [arithI, Act.put, Act.eval, List.setIfInBounds_toArray, List.set_cons_succ, List.set_cons_zero, Array.getD_eq_getD_getElem?, List.getElem?_toArray, List.getElem?_cons_succ, List.getElem?_cons_zero, Option.getD_some])))
        refine wp_region_F [(fun u_ => u_ = s.val), (fun u_ => u_ = c.val), (fun _ => True), (fun _ => True)] (CJ6 w0 S ((g10_, objC s.cells 34) :: (g8_, objC Nd0.cells 34) :: (g4_, objC c.cells 34) :: bsOf k) rows c s g11_ g12_) (by kernel_rfl) (by kernel_rfl) rfl (HH.out.drew) ?_ ?_
        · refine eachD_cons ?_ (eachD_cons ?_ (eachD_cons ?_ (eachD_cons ?_ (eachD_nil))))
          · intro li_ a_ w1 hc hi hJ hF hS
            have e10 : a_.eval (.tmp 10) = (.pointer (some ⟨g10_, 0, none⟩)) := (hF.2.2 10 (notDst_of (by kernel_rfl))).trans rfl
            refine wantD (by rfl) ?_
            exact ok_load kA34 hJ e10 (.there (.there .here)) (Arr.len _) ⟨hJ, rfl⟩
          · intro li_ a_ w1 hc hi hJ hF hS
            have e4 : a_.eval (.tmp 4) = (.pointer (some ⟨g4_, 0, none⟩)) := (hF.2.2 4 (notDst_of (by kernel_rfl))).trans rfl
            refine wantD (by rfl) ?_
            exact ok_load kA34 hJ e4 (.there (.there (.there (.there .here)))) (Arr.len _) ⟨hJ, rfl⟩
          · intro li_ a_ w1 hc hi hJ hF hS
            have l0 : li_ 0 = true := (hS ⟨0, .data⟩ (by simp) rfl).1
            have e11 : a_.eval (.tmp 11) = (.pointer (some ⟨g11_, 0, none⟩)) := (hF.2.2 11 (notDst_of (by kernel_rfl))).trans rfl
            have e27 : a_.eval (.tmp 27) = s.val := (hS ⟨0, .data⟩ (by simp) rfl).2 _ rfl
            refine wantD (by rfl) ?_
            exact cj6_2 hJ hi e11 e27
          · intro li_ a_ w1 hc hi hJ hF hS
            have l1 : li_ 1 = true := (hS ⟨1, .data⟩ (by simp) rfl).1
            have l2 : li_ 2 = true := (hS ⟨2, .chain⟩ (by simp) rfl).1
            have l0 : li_ 0 = true := (hS ⟨0, .phase⟩ (by simp) rfl).1
            have e12 : a_.eval (.tmp 12) = (.pointer (some ⟨g12_, 0, none⟩)) := (hF.2.2 12 (notDst_of (by kernel_rfl))).trans rfl
            have e28 : a_.eval (.tmp 28) = c.val := (hS ⟨1, .data⟩ (by simp) rfl).2 _ rfl
            refine wantD (by rfl) ?_
            exact cj6_3 hJ hi e12 e28
        intro v0_ h0_ v1_ h1_ v2_ h2_ v3_ h3_
        intro wq hq_
        have q_ : v0_ = s.val := h0_; clear h0_; subst q_
        have q_ : v1_ = c.val := h1_; clear h1_; subst q_
        clear h2_
        clear h3_
        have HQ := hid hq_; clear hq_
        simp only [putsD, Act.put, List.setIfInBounds_toArray, List.set_cons_succ, List.set_cons_zero]
        have hq3_ : Holds w0 S ((g11_, objC s.cells 34) :: (g12_, objC c.cells 34) :: (g10_, objC s.cells 34) :: (g8_, objC Nd0.cells 34) :: (g4_, objC c.cells 34) :: bsOf k) rows wq := HQ.out
        clear HH HQ
        have HH := hid hq3_
        clear hq3_
        go_wp2_with (first
          | ((first
              | ((with_reducible apply wpL_skip); rfl; skip)
              | ((with_reducible apply wpL_shrI (m := i) (k := k) (r := q)); rfl; rfl; rfl; rfl; (exact (by omega)); (exact HQ1.out); rfl)
              | ((with_reducible apply wpL_and (m := q) (n := 1) (r := 1)); rfl; rfl; rfl; rfl; (exact HB1.out); (exact (by decide)); (exact HAND.out); (exact (by decide)); rfl)
              | ((with_reducible apply wpL_callV (dst := some 34) (f := f) (first := #[]) (cap := cap) (args := #[.int .i64 ((k : Int) + 1), s.val, c.val] ++ cap) hf); go_must (rfl); go_must ((first | rfl | (simp only [Array.empty_append]; rfl))); go_must ((exact HVIS.out [(g11_, objC s.cells 34), (g12_, objC c.cells 34), (g10_, objC s.cells 34), (g8_, objC Nd0.cells 34), (g4_, objC c.cells 34)] _ HH.out)); go_must (rfl); go_must ((rintro e_ w2_ ⟨rfl, hq_⟩; refine ⟨_, rfl, ?_⟩; simp only [List.cons_append, List.nil_append] at hq_; clear HH; have HH := hid hq_; clear hq_)))
              | (go_at_call 37; (with_reducible refine (join_any _ ((k : Int) + 1) s c).mono ?_); rw [HC2.out]; rintro e_ w2_ ⟨rfl, hb_⟩; (have hq_ := HH.out.grow hb_); clear HH; have HH := hid hq_; clear hq_ hb_)
              | ((with_reducible apply wpL_nilCheck); rfl; rfl)
              | ((with_reducible apply wpL_loadArr (t := 34) kA34 HH.out); rfl; (first | exact .here | exact .there .here | exact .there (.there .here) | exact .there (.there (.there .here)) | exact .there (.there (.there (.there .here))) | exact .there (.there (.there (.there (.there .here)))) | exact .there (.there (.there (.there (.there (.there .here))))) | exact .there (.there (.there (.there (.there (.there (.there .here))))))); rfl)
              | ((with_reducible apply wpL_loadC (t := 34) kA34 HH.out); rfl; (first | exact .here | exact .there .here | exact .there (.there .here) | exact .there (.there (.there .here)) | exact .there (.there (.there (.there .here))) | exact .there (.there (.there (.there (.there .here)))) | exact .there (.there (.there (.there (.there (.there .here))))) | exact .there (.there (.there (.there (.there (.there (.there .here))))))); (first | rfl | exact Arr.len _ | (simp; done)); rfl)
              | ((with_reducible apply wpL_len (t := 46) Try.underlying46); rfl; rfl)
              | ((with_reducible apply wpL_boxArr (dst := some 4)); rfl; (exact HH.out); rfl; (intro g4_ w_ hq_; (try simp only [List.set_cons_zero, List.set_cons_succ] at hq_); clear HH; have HH := hid hq_; clear hq_))
              | ((with_reducible apply wpL_allocC (dst := some 8) kZ34 HH.out); rfl; (intro g8_ w_ hq_; (try simp only [List.set_cons_zero, List.set_cons_succ] at hq_); clear HH; have HH := hid hq_; clear hq_))
              | ((with_reducible apply wpL_allocC (dst := some 10) kZ34 HH.out); rfl; (intro g10_ w_ hq_; (try simp only [List.set_cons_zero, List.set_cons_succ] at hq_); clear HH; have HH := hid hq_; clear hq_))
              | ((with_reducible apply wpL_allocC (dst := some 11) kZ34 HH.out); rfl; (intro g11_ w_ hq_; (try simp only [List.set_cons_zero, List.set_cons_succ] at hq_); clear HH; have HH := hid hq_; clear hq_))
              | ((with_reducible apply wpL_allocC (dst := some 12) kZ34 HH.out); rfl; (intro g12_ w_ hq_; (try simp only [List.set_cons_zero, List.set_cons_succ] at hq_); clear HH; have HH := hid hq_; clear hq_))
              | ((with_reducible apply wpL_storeArr (t := 34) kS34 HH.out); rfl; rfl; (first | exact .here | exact .there .here | exact .there (.there .here) | exact .there (.there (.there .here)) | exact .there (.there (.there (.there .here))) | exact .there (.there (.there (.there (.there .here)))) | exact .there (.there (.there (.there (.there (.there .here))))) | exact .there (.there (.there (.there (.there (.there (.there .here))))))); (first | rfl | exact Arr.len _ | (simp; done)); rfl; (intro w_ hq_; (try simp only [List.set_cons_zero, List.set_cons_succ] at hq_); clear HH; have HH := hid hq_; clear hq_))
              | ((with_reducible apply wpL_storeC (t := 34)); rfl; rfl; (exact kS34); (exact HH.out); (first | exact .here | exact .there .here | exact .there (.there .here) | exact .there (.there (.there .here)) | exact .there (.there (.there (.there .here))) | exact .there (.there (.there (.there (.there .here)))) | exact .there (.there (.there (.there (.there (.there .here))))) | exact .there (.there (.there (.there (.there (.there (.there .here))))))); (first | rfl | exact Arr.len _ | (simp; done)); (first | rfl | (intro u_ hu_; simp only [List.mem_cons, List.not_mem_nil, or_false] at hu_; rcases hu_ with rfl | hu_; rfl) | exact byt_cell1 _ | exact cells_one _ | exact wrd_one _ | exact flat_cell1 _); (first | rfl | exact Arr.len _ | (simp; done)); rfl; (intro w_ hq_; (try simp only [List.set_cons_zero, List.set_cons_succ] at hq_); clear HH; have HH := hid hq_; clear hq_))
              | ((with_reducible apply wpL_move); rfl; rfl)
              | ((with_reducible apply wpL_assign); rfl; rfl)
              | ((with_reducible apply wpL_pick); rfl; rfl; rfl)
              | ((with_reducible apply wpL_not); rfl; rfl)
              | ((with_reducible apply wpL_cmp (b := true)); rfl; rfl; rfl; (first | rfl | assumption | (simp only [cmpB, decide_eq_true_eq, decide_eq_false_iff_not, beq_iff_eq, bne_iff_ne, ne_eq, beq_eq_false_iff_ne, bne_eq_false_iff_eq, gt_iff_lt, ge_iff_le]; omega) | (simp; omega)); rfl)
              | ((with_reducible apply wpL_cmp (b := false)); rfl; rfl; rfl; (first | rfl | assumption | (simp only [cmpB, decide_eq_true_eq, decide_eq_false_iff_not, beq_iff_eq, bne_iff_ne, ne_eq, beq_eq_false_iff_ne, bne_eq_false_iff_eq, gt_iff_lt, ge_iff_le]; omega) | (simp; omega)); rfl)
              | ((with_reducible apply wpL_cmp); rfl; rfl; rfl; rfl; rfl)
              | ((with_reducible apply wpL_arith); rfl; rfl; rfl; (exact IntWalk.i64_in _ (by (try simp only [arithI]); omega)); rfl)); (try simp only [arithI, Act.put, Act.eval, List.setIfInBounds_toArray, List.set_cons_succ, List.set_cons_zero, Array.getD_eq_getD_getElem?, List.getElem?_toArray, List.getElem?_cons_succ, List.getElem?_cons_zero, Option.getD_some])))
        go_roundw
        case rel => exact ⟨k + 1, by omega, by go_num, HST.out ▸ HH.out.dropBlk.dropBlk.dropBlk⟩
        case measure => simp [intOf]; omega
      · have hpair : pairC i k c s = (c, s) := by unfold pairC; rw [if_neg hbit]
        rw [hpair] at hv hst
        obtain ⟨c2, hc2⟩ : ∃ c2, joinN ((k : Int) + 1) c s = c2 := ⟨_, rfl⟩
        have HC2 := hid hc2
        have HST := hid (show curAt i x p (k + 1) = c2 by rw [hst]; exact hc2)
        have HVIS := hid hv
        have HAND := hid (show q &&& 1 = 0 by rw [Nat.and_one_is_mod, ← HQ1.out]; omega)
        clear hpair hv hst hc2 hbit
        go_wp2_with (first
          | ((first
              | ((with_reducible apply wpL_skip); rfl; skip)
              | ((with_reducible apply wpL_shrI (m := i) (k := k) (r := q)); rfl; rfl; rfl; rfl; (exact (by omega)); (exact HQ1.out); rfl)
              | ((with_reducible apply wpL_and (m := q) (n := 1) (r := 0)); rfl; rfl; rfl; rfl; (exact HB1.out); (exact (by decide)); (exact HAND.out); (exact (by decide)); rfl)
              | ((with_reducible apply wpL_callV (dst := some 34) (f := f) (first := #[]) (cap := cap) (args := #[.int .i64 ((k : Int) + 1), c.val, s.val] ++ cap) hf); go_must (rfl); go_must ((first | rfl | (simp only [Array.empty_append]; rfl))); go_must ((exact HVIS.out [(g11_, objC c.cells 34), (g12_, objC s.cells 34), (g10_, objC s.cells 34), (g8_, objC Nd0.cells 34), (g4_, objC c.cells 34)] _ HH.out)); go_must (rfl); go_must ((rintro e_ w2_ ⟨rfl, hq_⟩; refine ⟨_, rfl, ?_⟩; simp only [List.cons_append, List.nil_append] at hq_; clear HH; have HH := hid hq_; clear hq_)))
              | (go_at_call 37; (with_reducible refine (join_any _ ((k : Int) + 1) c s).mono ?_); rw [HC2.out]; rintro e_ w2_ ⟨rfl, hb_⟩; (have hq_ := HH.out.grow hb_); clear HH; have HH := hid hq_; clear hq_ hb_)
              | ((with_reducible apply wpL_nilCheck); rfl; rfl)
              | ((with_reducible apply wpL_loadArr (t := 34) kA34 HH.out); rfl; (first | exact .here | exact .there .here | exact .there (.there .here) | exact .there (.there (.there .here)) | exact .there (.there (.there (.there .here))) | exact .there (.there (.there (.there (.there .here)))) | exact .there (.there (.there (.there (.there (.there .here))))) | exact .there (.there (.there (.there (.there (.there (.there .here))))))); rfl)
              | ((with_reducible apply wpL_loadC (t := 34) kA34 HH.out); rfl; (first | exact .here | exact .there .here | exact .there (.there .here) | exact .there (.there (.there .here)) | exact .there (.there (.there (.there .here))) | exact .there (.there (.there (.there (.there .here)))) | exact .there (.there (.there (.there (.there (.there .here))))) | exact .there (.there (.there (.there (.there (.there (.there .here))))))); (first | rfl | exact Arr.len _ | (simp; done)); rfl)
              | ((with_reducible apply wpL_len (t := 46) Try.underlying46); rfl; rfl)
              | ((with_reducible apply wpL_boxArr (dst := some 4)); rfl; (exact HH.out); rfl; (intro g4_ w_ hq_; (try simp only [List.set_cons_zero, List.set_cons_succ] at hq_); clear HH; have HH := hid hq_; clear hq_))
              | ((with_reducible apply wpL_allocC (dst := some 8) kZ34 HH.out); rfl; (intro g8_ w_ hq_; (try simp only [List.set_cons_zero, List.set_cons_succ] at hq_); clear HH; have HH := hid hq_; clear hq_))
              | ((with_reducible apply wpL_allocC (dst := some 10) kZ34 HH.out); rfl; (intro g10_ w_ hq_; (try simp only [List.set_cons_zero, List.set_cons_succ] at hq_); clear HH; have HH := hid hq_; clear hq_))
              | ((with_reducible apply wpL_allocC (dst := some 11) kZ34 HH.out); rfl; (intro g11_ w_ hq_; (try simp only [List.set_cons_zero, List.set_cons_succ] at hq_); clear HH; have HH := hid hq_; clear hq_))
              | ((with_reducible apply wpL_allocC (dst := some 12) kZ34 HH.out); rfl; (intro g12_ w_ hq_; (try simp only [List.set_cons_zero, List.set_cons_succ] at hq_); clear HH; have HH := hid hq_; clear hq_))
              | ((with_reducible apply wpL_storeArr (t := 34) kS34 HH.out); rfl; rfl; (first | exact .here | exact .there .here | exact .there (.there .here) | exact .there (.there (.there .here)) | exact .there (.there (.there (.there .here))) | exact .there (.there (.there (.there (.there .here)))) | exact .there (.there (.there (.there (.there (.there .here))))) | exact .there (.there (.there (.there (.there (.there (.there .here))))))); (first | rfl | exact Arr.len _ | (simp; done)); rfl; (intro w_ hq_; (try simp only [List.set_cons_zero, List.set_cons_succ] at hq_); clear HH; have HH := hid hq_; clear hq_))
              | ((with_reducible apply wpL_storeC (t := 34)); rfl; rfl; (exact kS34); (exact HH.out); (first | exact .here | exact .there .here | exact .there (.there .here) | exact .there (.there (.there .here)) | exact .there (.there (.there (.there .here))) | exact .there (.there (.there (.there (.there .here)))) | exact .there (.there (.there (.there (.there (.there .here))))) | exact .there (.there (.there (.there (.there (.there (.there .here))))))); (first | rfl | exact Arr.len _ | (simp; done)); (first | rfl | (intro u_ hu_; simp only [List.mem_cons, List.not_mem_nil, or_false] at hu_; rcases hu_ with rfl | hu_; rfl) | exact byt_cell1 _ | exact cells_one _ | exact wrd_one _ | exact flat_cell1 _); (first | rfl | exact Arr.len _ | (simp; done)); rfl; (intro w_ hq_; (try simp only [List.set_cons_zero, List.set_cons_succ] at hq_); clear HH; have HH := hid hq_; clear hq_))
              | ((with_reducible apply wpL_move); rfl; rfl)
              | ((with_reducible apply wpL_assign); rfl; rfl)
              | ((with_reducible apply wpL_pick); rfl; rfl; rfl)
              | ((with_reducible apply wpL_not); rfl; rfl)
              | ((with_reducible apply wpL_cmp (b := true)); rfl; rfl; rfl; (first | rfl | assumption | (simp only [cmpB, decide_eq_true_eq, decide_eq_false_iff_not, beq_iff_eq, bne_iff_ne, ne_eq, beq_eq_false_iff_ne, bne_eq_false_iff_eq, gt_iff_lt, ge_iff_le]; omega) | (simp; omega)); rfl)
              | ((with_reducible apply wpL_cmp (b := false)); rfl; rfl; rfl; (first | rfl | assumption | (simp only [cmpB, decide_eq_true_eq, decide_eq_false_iff_not, beq_iff_eq, bne_iff_ne, ne_eq, beq_eq_false_iff_ne, bne_eq_false_iff_eq, gt_iff_lt, ge_iff_le]; omega) | (simp; omega)); rfl)
              | ((with_reducible apply wpL_cmp); rfl; rfl; rfl; rfl; rfl)
              | ((with_reducible apply wpL_arith); rfl; rfl; rfl; (exact IntWalk.i64_in _ (by (try simp only [arithI]); omega)); rfl)); (try simp only [arithI, Act.put, Act.eval, List.setIfInBounds_toArray, List.set_cons_succ, List.set_cons_zero, Array.getD_eq_getD_getElem?, List.getElem?_toArray, List.getElem?_cons_succ, List.getElem?_cons_zero, Option.getD_some])))
        go_roundw
        case rel => exact ⟨k + 1, by omega, by go_num, HST.out ▸ HH.out.dropBlk.dropBlk.dropBlk⟩
        case measure => simp [intOf]; omega
    · obtain rfl : k = p.length := by omega
      go_wp2_with (first
        | ((first
            | ((with_reducible apply wpL_skip); rfl; skip)
            | ((with_reducible apply wpL_nilCheck); rfl; rfl)
            | ((with_reducible apply wpL_loadArr (t := 34) kA34 HH.out); rfl; (first | exact .here | exact .there .here | exact .there (.there .here) | exact .there (.there (.there .here)) | exact .there (.there (.there (.there .here))) | exact .there (.there (.there (.there (.there .here)))) | exact .there (.there (.there (.there (.there (.there .here))))) | exact .there (.there (.there (.there (.there (.there (.there .here))))))); rfl)
            | ((with_reducible apply wpL_loadC (t := 34) kA34 HH.out); rfl; (first | exact .here | exact .there .here | exact .there (.there .here) | exact .there (.there (.there .here)) | exact .there (.there (.there (.there .here))) | exact .there (.there (.there (.there (.there .here)))) | exact .there (.there (.there (.there (.there (.there .here))))) | exact .there (.there (.there (.there (.there (.there (.there .here))))))); (first | rfl | exact Arr.len _ | (simp; done)); rfl)
            | ((with_reducible apply wpL_len (t := 46) Try.underlying46); rfl; rfl)
            | ((with_reducible apply wpL_boxArr (dst := some 4)); rfl; (exact HH.out); rfl; (intro g4_ w_ hq_; (try simp only [List.set_cons_zero, List.set_cons_succ] at hq_); clear HH; have HH := hid hq_; clear hq_))
            | ((with_reducible apply wpL_allocC (dst := some 8) kZ34 HH.out); rfl; (intro g8_ w_ hq_; (try simp only [List.set_cons_zero, List.set_cons_succ] at hq_); clear HH; have HH := hid hq_; clear hq_))
            | ((with_reducible apply wpL_allocC (dst := some 10) kZ34 HH.out); rfl; (intro g10_ w_ hq_; (try simp only [List.set_cons_zero, List.set_cons_succ] at hq_); clear HH; have HH := hid hq_; clear hq_))
            | ((with_reducible apply wpL_allocC (dst := some 11) kZ34 HH.out); rfl; (intro g11_ w_ hq_; (try simp only [List.set_cons_zero, List.set_cons_succ] at hq_); clear HH; have HH := hid hq_; clear hq_))
            | ((with_reducible apply wpL_allocC (dst := some 12) kZ34 HH.out); rfl; (intro g12_ w_ hq_; (try simp only [List.set_cons_zero, List.set_cons_succ] at hq_); clear HH; have HH := hid hq_; clear hq_))
            | ((with_reducible apply wpL_storeArr (t := 34) kS34 HH.out); rfl; rfl; (first | exact .here | exact .there .here | exact .there (.there .here) | exact .there (.there (.there .here)) | exact .there (.there (.there (.there .here))) | exact .there (.there (.there (.there (.there .here)))) | exact .there (.there (.there (.there (.there (.there .here))))) | exact .there (.there (.there (.there (.there (.there (.there .here))))))); (first | rfl | exact Arr.len _ | (simp; done)); rfl; (intro w_ hq_; (try simp only [List.set_cons_zero, List.set_cons_succ] at hq_); clear HH; have HH := hid hq_; clear hq_))
            | ((with_reducible apply wpL_storeC (t := 34)); rfl; rfl; (exact kS34); (exact HH.out); (first | exact .here | exact .there .here | exact .there (.there .here) | exact .there (.there (.there .here)) | exact .there (.there (.there (.there .here))) | exact .there (.there (.there (.there (.there .here)))) | exact .there (.there (.there (.there (.there (.there .here))))) | exact .there (.there (.there (.there (.there (.there (.there .here))))))); (first | rfl | exact Arr.len _ | (simp; done)); (first | rfl | (intro u_ hu_; simp only [List.mem_cons, List.not_mem_nil, or_false] at hu_; rcases hu_ with rfl | hu_; rfl) | exact byt_cell1 _ | exact cells_one _ | exact wrd_one _ | exact flat_cell1 _); (first | rfl | exact Arr.len _ | (simp; done)); rfl; (intro w_ hq_; (try simp only [List.set_cons_zero, List.set_cons_succ] at hq_); clear HH; have HH := hid hq_; clear hq_))
            | ((with_reducible apply wpL_move); rfl; rfl)
            | ((with_reducible apply wpL_assign); rfl; rfl)
            | ((with_reducible apply wpL_pick); rfl; rfl; rfl)
            | ((with_reducible apply wpL_not); rfl; rfl)
            | ((with_reducible apply wpL_cmp (b := true)); rfl; rfl; rfl; (first | rfl | assumption | (simp only [cmpB, decide_eq_true_eq, decide_eq_false_iff_not, beq_iff_eq, bne_iff_ne, ne_eq, beq_eq_false_iff_ne, bne_eq_false_iff_eq, gt_iff_lt, ge_iff_le]; omega) | (simp; omega)); rfl)
            | ((with_reducible apply wpL_cmp (b := false)); rfl; rfl; rfl; (first | rfl | assumption | (simp only [cmpB, decide_eq_true_eq, decide_eq_false_iff_not, beq_iff_eq, bne_iff_ne, ne_eq, beq_eq_false_iff_ne, bne_eq_false_iff_eq, gt_iff_lt, ge_iff_le]; omega) | (simp; omega)); rfl)
            | ((with_reducible apply wpL_cmp); rfl; rfl; rfl; rfl; rfl)
            | ((with_reducible apply wpL_arith); rfl; rfl; rfl; (exact IntWalk.i64_in _ (by (try simp only [arithI]); omega)); rfl)); (try simp only [arithI, Act.put, Act.eval, List.setIfInBounds_toArray, List.set_cons_succ, List.set_cons_zero, Array.getD_eq_getD_getElem?, List.getElem?_toArray, List.getElem?_cons_succ, List.getElem?_cons_zero, Option.getD_some])))
      refine bodyPost_ret (res1 rfl (resC kA34 HH.out (by rfl) .here (Arr.len _))) rfl ?_
      exact ⟨rfl, HH.out.dropBlk.dropBlk⟩
end Go.Proofs.Ytgkfopodhikckaa

/- From and Verify of merkle. Condition: at most 10^9 nodes. -/
namespace Go.Proofs.Ytgkfopodhikckaa
open Go.RowKit
attribute [local irreducible] wpQuiet wpList
theorem res0 {P : Program} {w : World} {fn : Func} {tmps : Array Value} (h : fn.results = #[]) : (results fn tmps).run P w = .ok (.tuple #[]) w := by
  rw [results_eq, h]; simp
set_option maxRecDepth 100000 in
set_option maxHeartbeats 2000000 in
theorem from1_any (w : World) (k : Int) (x y : Nd) : Calls Try.prog 77 #[.int .i64 k, x.val, y.val] w (fun e w' => e = .returned (.tuple #[]) ∧ Below w.heap.size w w') := by
  have HH := hid (Holds.init w)
  go_enter Try.func77, Try.ntmps77
  go_wp2_with (first
    | ((first
        | ((with_reducible apply wpL_skip); rfl; skip)
        | ((with_reducible apply wpL_nilCheck); rfl; rfl)
        | ((with_reducible apply wpL_boxArr (dst := some 4)); rfl; (exact HH.out); rfl; (intro g4_ w_ hq_; (try simp only [List.set_cons_zero, List.set_cons_succ] at hq_); clear HH; have HH := hid hq_; clear hq_))
        | ((with_reducible apply wpL_boxArr (dst := some 5)); rfl; (exact HH.out); rfl; (intro g5_ w_ hq_; (try simp only [List.set_cons_zero, List.set_cons_succ] at hq_); clear HH; have HH := hid hq_; clear hq_))
        | ((with_reducible apply wpL_move); rfl; rfl)
        | ((with_reducible apply wpL_assign); rfl; rfl)
        | ((with_reducible apply wpL_pick); rfl; rfl; rfl)
        | ((with_reducible apply wpL_not); rfl; rfl)
        | ((with_reducible apply wpL_cmp (b := true)); rfl; rfl; rfl; (first | rfl | assumption | (simp only [cmpB, decide_eq_true_eq, decide_eq_false_iff_not, beq_iff_eq, bne_iff_ne, ne_eq, beq_eq_false_iff_ne, bne_eq_false_iff_eq, gt_iff_lt, ge_iff_le]; omega) | (simp; omega)); rfl)
        | ((with_reducible apply wpL_cmp (b := false)); rfl; rfl; rfl; (first | rfl | assumption | (simp only [cmpB, decide_eq_true_eq, decide_eq_false_iff_not, beq_iff_eq, bne_iff_ne, ne_eq, beq_eq_false_iff_ne, bne_eq_false_iff_eq, gt_iff_lt, ge_iff_le]; omega) | (simp; omega)); rfl)
        | ((with_reducible apply wpL_cmp); rfl; rfl; rfl; rfl; rfl)
        | ((with_reducible apply wpL_arith); rfl; rfl; rfl; (exact IntWalk.i64_in _ (by (try simp only [arithI]); omega)); rfl)); (try simp only [arithI, Act.put, Act.eval, List.setIfInBounds_toArray, List.set_cons_succ, List.set_cons_zero, Array.getD_eq_getD_getElem?, List.getElem?_toArray, List.getElem?_cons_succ, List.getElem?_cons_zero, Option.getD_some])))
  exact ⟨rfl, _, res0 rfl, rfl, HH.out.dropBlk.dropBlk.below⟩
def fromC (i : Int) (n : Nat) : Int := if 10 < n then 9 else if i < 0 ∨ ((2 ^ n : Nat) : Int) ≤ i then 8 else 0
def fromV (x : Nd) (i : Int) (p : List Nd) : Nd := if fromC i p.length = 0 then curAt i.toNat x p p.length else Nd0
set_option maxRecDepth 100000 in
set_option maxHeartbeats 4000000 in
theorem from_any (w : World) (v : Value) (x : Nd) (i : Int) (p : List Nd) (hp : Arrs w v p) (hn : p.length ≤ 1000000000) : Calls Try.prog 54 #[x.val, .int .i64 i, v] w (RetR w (fromV x i p) (fromC i p.length)) := by
  obtain ⟨ao, cap, rfl, _⟩ := hp.shape
  have HP := hid hp
  clear hp
  have HH := hid (Holds.init w)
  by_cases h10 : 10 < p.length
  · have e1 : fromC i p.length = 9 := by unfold fromC; rw [if_pos h10]
    have e2 : fromV x i p = Nd0 := by unfold fromV; rw [e1]; rfl
    rw [e1, e2]
    clear e1 e2
    go_enter Try.func54, Try.ntmps54
    go_wp2_with (first
      | ((first
          | ((with_reducible apply wpL_skip); rfl; skip)
          | ((with_reducible apply wpList_build (parts := #[]) (v := Nd0.val)); (exact BZ34); rfl)
          | ((with_reducible apply wpL_storeC (t := 34) (vs := Nd0.cells)); rfl; rfl; (exact kS34); (exact HH.out); (exact .here); (exact Arr.len _); (exact cells_one _); (exact Arr.len _); rfl; (intro w_ hq_; clear HH; have HH := hid hq_; clear hq_))
          | ((with_reducible apply wpL_nilCheck); rfl; rfl)
          | ((with_reducible apply wpL_loadArr (t := 34) kA34 HH.out); rfl; (first | exact .here | exact .there .here | exact .there (.there .here) | exact .there (.there (.there .here)) | exact .there (.there (.there (.there .here))) | exact .there (.there (.there (.there (.there .here)))) | exact .there (.there (.there (.there (.there (.there .here))))) | exact .there (.there (.there (.there (.there (.there (.there .here))))))); rfl)
          | ((with_reducible apply wpL_loadC (t := 34) kA34 HH.out); rfl; (first | exact .here | exact .there .here | exact .there (.there .here) | exact .there (.there (.there .here)) | exact .there (.there (.there (.there .here))) | exact .there (.there (.there (.there (.there .here)))) | exact .there (.there (.there (.there (.there (.there .here))))) | exact .there (.there (.there (.there (.there (.there (.there .here))))))); (first | rfl | exact Arr.len _ | (simp; done)); rfl)
          | ((with_reducible apply wpL_len (t := 46) Try.underlying46); rfl; rfl)
          | ((with_reducible apply wpL_boxArr (dst := some 3)); rfl; (exact HH.out); rfl; (intro g3_ w_ hq_; (try simp only [List.set_cons_zero, List.set_cons_succ] at hq_); clear HH; have HH := hid hq_; clear hq_))
          | ((with_reducible apply wpL_allocC (dst := some 6) kZ34 HH.out); rfl; (intro g6_ w_ hq_; (try simp only [List.set_cons_zero, List.set_cons_succ] at hq_); clear HH; have HH := hid hq_; clear hq_))
          | ((with_reducible apply wpL_storeArr (t := 34) kS34 HH.out); rfl; rfl; (first | exact .here | exact .there .here | exact .there (.there .here) | exact .there (.there (.there .here)) | exact .there (.there (.there (.there .here))) | exact .there (.there (.there (.there (.there .here)))) | exact .there (.there (.there (.there (.there (.there .here))))) | exact .there (.there (.there (.there (.there (.there (.there .here))))))); (first | rfl | exact Arr.len _ | (simp; done)); rfl; (intro w_ hq_; (try simp only [List.set_cons_zero, List.set_cons_succ] at hq_); clear HH; have HH := hid hq_; clear hq_))
          | ((with_reducible apply wpL_storeC (t := 34)); rfl; rfl; (exact kS34); (exact HH.out); (first | exact .here | exact .there .here | exact .there (.there .here) | exact .there (.there (.there .here)) | exact .there (.there (.there (.there .here))) | exact .there (.there (.there (.there (.there .here)))) | exact .there (.there (.there (.there (.there (.there .here))))) | exact .there (.there (.there (.there (.there (.there (.there .here))))))); (first | rfl | exact Arr.len _ | (simp; done)); (first | rfl | (intro u_ hu_; simp only [List.mem_cons, List.not_mem_nil, or_false] at hu_; rcases hu_ with rfl | hu_; rfl) | exact byt_cell1 _ | exact cells_one _ | exact wrd_one _ | exact flat_cell1 _); (first | rfl | exact Arr.len _ | (simp; done)); rfl; (intro w_ hq_; (try simp only [List.set_cons_zero, List.set_cons_succ] at hq_); clear HH; have HH := hid hq_; clear hq_))
          | ((with_reducible apply wpL_move); rfl; rfl)
          | ((with_reducible apply wpL_assign); rfl; rfl)
          | ((with_reducible apply wpL_pick); rfl; rfl; rfl)
          | ((with_reducible apply wpL_not); rfl; rfl)
          | ((with_reducible apply wpL_cmp (b := true)); rfl; rfl; rfl; (first | rfl | assumption | (simp only [cmpB, decide_eq_true_eq, decide_eq_false_iff_not, beq_iff_eq, bne_iff_ne, ne_eq, beq_eq_false_iff_ne, bne_eq_false_iff_eq, gt_iff_lt, ge_iff_le]; omega) | (simp; omega)); rfl)
          | ((with_reducible apply wpL_cmp (b := false)); rfl; rfl; rfl; (first | rfl | assumption | (simp only [cmpB, decide_eq_true_eq, decide_eq_false_iff_not, beq_iff_eq, bne_iff_ne, ne_eq, beq_eq_false_iff_ne, bne_eq_false_iff_eq, gt_iff_lt, ge_iff_le]; omega) | (simp; omega)); rfl)
          | ((with_reducible apply wpL_cmp); rfl; rfl; rfl; rfl; rfl)
          | ((with_reducible apply wpL_arith); rfl; rfl; rfl; (exact IntWalk.i64_in _ (by (try simp only [arithI]); omega)); rfl)); (try simp only [arithI, Act.put, Act.eval, List.setIfInBounds_toArray, List.set_cons_succ, List.set_cons_zero, Array.getD_eq_getD_getElem?, List.getElem?_toArray, List.getElem?_cons_succ, List.getElem?_cons_zero, Option.getD_some])))
    refine bodyPost_ret (res2 rfl (resC kA34 HH.out (by rfl) .here (Arr.len _)) (by rfl)) rfl ?_
    exact RetR.mk rfl rfl HH.out.dropBlk.dropBlk.below
  · by_cases h0 : i < 0
    · have e1 : fromC i p.length = 8 := by unfold fromC; rw [if_neg h10, if_pos (.inl h0)]
      have e2 : fromV x i p = Nd0 := by unfold fromV; rw [e1]; rfl
      rw [e1, e2]
      clear e1 e2
      go_enter Try.func54, Try.ntmps54
      go_wp2_with (first
        | ((first
            | ((with_reducible apply wpL_skip); rfl; skip)
            | ((with_reducible apply wpList_build (parts := #[]) (v := Nd0.val)); (exact BZ34); rfl)
            | ((with_reducible apply wpL_storeC (t := 34) (vs := Nd0.cells)); rfl; rfl; (exact kS34); (exact HH.out); (exact .here); (exact Arr.len _); (exact cells_one _); (exact Arr.len _); rfl; (intro w_ hq_; clear HH; have HH := hid hq_; clear hq_))
            | ((with_reducible apply wpL_nilCheck); rfl; rfl)
            | ((with_reducible apply wpL_loadArr (t := 34) kA34 HH.out); rfl; (first | exact .here | exact .there .here | exact .there (.there .here) | exact .there (.there (.there .here)) | exact .there (.there (.there (.there .here))) | exact .there (.there (.there (.there (.there .here)))) | exact .there (.there (.there (.there (.there (.there .here))))) | exact .there (.there (.there (.there (.there (.there (.there .here))))))); rfl)
            | ((with_reducible apply wpL_loadC (t := 34) kA34 HH.out); rfl; (first | exact .here | exact .there .here | exact .there (.there .here) | exact .there (.there (.there .here)) | exact .there (.there (.there (.there .here))) | exact .there (.there (.there (.there (.there .here)))) | exact .there (.there (.there (.there (.there (.there .here))))) | exact .there (.there (.there (.there (.there (.there (.there .here))))))); (first | rfl | exact Arr.len _ | (simp; done)); rfl)
            | ((with_reducible apply wpL_len (t := 46) Try.underlying46); rfl; rfl)
            | ((with_reducible apply wpL_boxArr (dst := some 3)); rfl; (exact HH.out); rfl; (intro g3_ w_ hq_; (try simp only [List.set_cons_zero, List.set_cons_succ] at hq_); clear HH; have HH := hid hq_; clear hq_))
            | ((with_reducible apply wpL_allocC (dst := some 6) kZ34 HH.out); rfl; (intro g6_ w_ hq_; (try simp only [List.set_cons_zero, List.set_cons_succ] at hq_); clear HH; have HH := hid hq_; clear hq_))
            | ((with_reducible apply wpL_storeArr (t := 34) kS34 HH.out); rfl; rfl; (first | exact .here | exact .there .here | exact .there (.there .here) | exact .there (.there (.there .here)) | exact .there (.there (.there (.there .here))) | exact .there (.there (.there (.there (.there .here)))) | exact .there (.there (.there (.there (.there (.there .here))))) | exact .there (.there (.there (.there (.there (.there (.there .here))))))); (first | rfl | exact Arr.len _ | (simp; done)); rfl; (intro w_ hq_; (try simp only [List.set_cons_zero, List.set_cons_succ] at hq_); clear HH; have HH := hid hq_; clear hq_))
            | ((with_reducible apply wpL_storeC (t := 34)); rfl; rfl; (exact kS34); (exact HH.out); (first | exact .here | exact .there .here | exact .there (.there .here) | exact .there (.there (.there .here)) | exact .there (.there (.there (.there .here))) | exact .there (.there (.there (.there (.there .here)))) | exact .there (.there (.there (.there (.there (.there .here))))) | exact .there (.there (.there (.there (.there (.there (.there .here))))))); (first | rfl | exact Arr.len _ | (simp; done)); (first | rfl | (intro u_ hu_; simp only [List.mem_cons, List.not_mem_nil, or_false] at hu_; rcases hu_ with rfl | hu_; rfl) | exact byt_cell1 _ | exact cells_one _ | exact wrd_one _ | exact flat_cell1 _); (first | rfl | exact Arr.len _ | (simp; done)); rfl; (intro w_ hq_; (try simp only [List.set_cons_zero, List.set_cons_succ] at hq_); clear HH; have HH := hid hq_; clear hq_))
            | ((with_reducible apply wpL_move); rfl; rfl)
            | ((with_reducible apply wpL_assign); rfl; rfl)
            | ((with_reducible apply wpL_pick); rfl; rfl; rfl)
            | ((with_reducible apply wpL_not); rfl; rfl)
            | ((with_reducible apply wpL_cmp (b := true)); rfl; rfl; rfl; (first | rfl | assumption | (simp only [cmpB, decide_eq_true_eq, decide_eq_false_iff_not, beq_iff_eq, bne_iff_ne, ne_eq, beq_eq_false_iff_ne, bne_eq_false_iff_eq, gt_iff_lt, ge_iff_le]; omega) | (simp; omega)); rfl)
            | ((with_reducible apply wpL_cmp (b := false)); rfl; rfl; rfl; (first | rfl | assumption | (simp only [cmpB, decide_eq_true_eq, decide_eq_false_iff_not, beq_iff_eq, bne_iff_ne, ne_eq, beq_eq_false_iff_ne, bne_eq_false_iff_eq, gt_iff_lt, ge_iff_le]; omega) | (simp; omega)); rfl)
            | ((with_reducible apply wpL_cmp); rfl; rfl; rfl; rfl; rfl)
            | ((with_reducible apply wpL_arith); rfl; rfl; rfl; (exact IntWalk.i64_in _ (by (try simp only [arithI]); omega)); rfl)); (try simp only [arithI, Act.put, Act.eval, List.setIfInBounds_toArray, List.set_cons_succ, List.set_cons_zero, Array.getD_eq_getD_getElem?, List.getElem?_toArray, List.getElem?_cons_succ, List.getElem?_cons_zero, Option.getD_some])))
      refine bodyPost_ret (res2 rfl (resC kA34 HH.out (by rfl) .here (Arr.len _)) (by rfl)) rfl ?_
      exact RetR.mk rfl rfl HH.out.dropBlk.dropBlk.below
    · obtain ⟨j, rfl⟩ : ∃ j : Nat, i = j := ⟨i.toNat, by omega⟩
      obtain ⟨q, hq⟩ : ∃ q, 2 ^ p.length = q := ⟨_, rfl⟩
      have hq10 : q ≤ 1024 := by rw [← hq]; exact Nat.le_trans (Nat.pow_le_pow_right (by decide) (show p.length ≤ 10 by omega)) (by decide)
      have HQ1 := hid (show 1 * 2 ^ p.length = q by rw [Nat.one_mul, hq])
      have HW := hid (show IntKind.i64.wrap ((q : Nat) : Int) = (q : Int) from IntWalk.i64_in _ (by omega))
      by_cases hj : q ≤ j
      · have e1 : fromC (j : Int) p.length = 8 := by unfold fromC; rw [if_neg h10, if_pos (.inr (by rw [hq]; omega))]
        have e2 : fromV x (j : Int) p = Nd0 := by unfold fromV; rw [e1]; rfl
        rw [e1, e2]
        clear e1 e2 hq
        go_enter Try.func54, Try.ntmps54
        go_wp2_with (first
          | ((first
              | ((with_reducible apply wpL_skip); rfl; skip)
              | ((with_reducible apply wpL_shlP (m := 1) (k := p.length) (r := q)); rfl; rfl; rfl; rfl; (exact (by omega)); (exact HQ1.out); (exact HW.out); rfl)
              | ((with_reducible apply wpList_build (parts := #[]) (v := Nd0.val)); (exact BZ34); rfl)
              | ((with_reducible apply wpL_storeC (t := 34) (vs := Nd0.cells)); rfl; rfl; (exact kS34); (exact HH.out); (exact .here); (exact Arr.len _); (exact cells_one _); (exact Arr.len _); rfl; (intro w_ hq_; clear HH; have HH := hid hq_; clear hq_))
              | ((with_reducible apply wpL_nilCheck); rfl; rfl)
              | ((with_reducible apply wpL_loadArr (t := 34) kA34 HH.out); rfl; (first | exact .here | exact .there .here | exact .there (.there .here) | exact .there (.there (.there .here)) | exact .there (.there (.there (.there .here))) | exact .there (.there (.there (.there (.there .here)))) | exact .there (.there (.there (.there (.there (.there .here))))) | exact .there (.there (.there (.there (.there (.there (.there .here))))))); rfl)
              | ((with_reducible apply wpL_loadC (t := 34) kA34 HH.out); rfl; (first | exact .here | exact .there .here | exact .there (.there .here) | exact .there (.there (.there .here)) | exact .there (.there (.there (.there .here))) | exact .there (.there (.there (.there (.there .here)))) | exact .there (.there (.there (.there (.there (.there .here))))) | exact .there (.there (.there (.there (.there (.there (.there .here))))))); (first | rfl | exact Arr.len _ | (simp; done)); rfl)
              | ((with_reducible apply wpL_len (t := 46) Try.underlying46); rfl; rfl)
              | ((with_reducible apply wpL_boxArr (dst := some 3)); rfl; (exact HH.out); rfl; (intro g3_ w_ hq_; (try simp only [List.set_cons_zero, List.set_cons_succ] at hq_); clear HH; have HH := hid hq_; clear hq_))
              | ((with_reducible apply wpL_allocC (dst := some 6) kZ34 HH.out); rfl; (intro g6_ w_ hq_; (try simp only [List.set_cons_zero, List.set_cons_succ] at hq_); clear HH; have HH := hid hq_; clear hq_))
              | ((with_reducible apply wpL_storeArr (t := 34) kS34 HH.out); rfl; rfl; (first | exact .here | exact .there .here | exact .there (.there .here) | exact .there (.there (.there .here)) | exact .there (.there (.there (.there .here))) | exact .there (.there (.there (.there (.there .here)))) | exact .there (.there (.there (.there (.there (.there .here))))) | exact .there (.there (.there (.there (.there (.there (.there .here))))))); (first | rfl | exact Arr.len _ | (simp; done)); rfl; (intro w_ hq_; (try simp only [List.set_cons_zero, List.set_cons_succ] at hq_); clear HH; have HH := hid hq_; clear hq_))
              | ((with_reducible apply wpL_storeC (t := 34)); rfl; rfl; (exact kS34); (exact HH.out); (first | exact .here | exact .there .here | exact .there (.there .here) | exact .there (.there (.there .here)) | exact .there (.there (.there (.there .here))) | exact .there (.there (.there (.there (.there .here)))) | exact .there (.there (.there (.there (.there (.there .here))))) | exact .there (.there (.there (.there (.there (.there (.there .here))))))); (first | rfl | exact Arr.len _ | (simp; done)); (first | rfl | (intro u_ hu_; simp only [List.mem_cons, List.not_mem_nil, or_false] at hu_; rcases hu_ with rfl | hu_; rfl) | exact byt_cell1 _ | exact cells_one _ | exact wrd_one _ | exact flat_cell1 _); (first | rfl | exact Arr.len _ | (simp; done)); rfl; (intro w_ hq_; (try simp only [List.set_cons_zero, List.set_cons_succ] at hq_); clear HH; have HH := hid hq_; clear hq_))
              | ((with_reducible apply wpL_move); rfl; rfl)
              | ((with_reducible apply wpL_assign); rfl; rfl)
              | ((with_reducible apply wpL_pick); rfl; rfl; rfl)
              | ((with_reducible apply wpL_not); rfl; rfl)
              | ((with_reducible apply wpL_cmp (b := true)); rfl; rfl; rfl; (first | rfl | assumption | (simp only [cmpB, decide_eq_true_eq, decide_eq_false_iff_not, beq_iff_eq, bne_iff_ne, ne_eq, beq_eq_false_iff_ne, bne_eq_false_iff_eq, gt_iff_lt, ge_iff_le]; omega) | (simp; omega)); rfl)
              | ((with_reducible apply wpL_cmp (b := false)); rfl; rfl; rfl; (first | rfl | assumption | (simp only [cmpB, decide_eq_true_eq, decide_eq_false_iff_not, beq_iff_eq, bne_iff_ne, ne_eq, beq_eq_false_iff_ne, bne_eq_false_iff_eq, gt_iff_lt, ge_iff_le]; omega) | (simp; omega)); rfl)
              | ((with_reducible apply wpL_cmp); rfl; rfl; rfl; rfl; rfl)
              | ((with_reducible apply wpL_arith); rfl; rfl; rfl; (exact IntWalk.i64_in _ (by (try simp only [arithI]); omega)); rfl)); (try simp only [arithI, Act.put, Act.eval, List.setIfInBounds_toArray, List.set_cons_succ, List.set_cons_zero, Array.getD_eq_getD_getElem?, List.getElem?_toArray, List.getElem?_cons_succ, List.getElem?_cons_zero, Option.getD_some])))
        refine bodyPost_ret (res2 rfl (resC kA34 HH.out (by rfl) .here (Arr.len _)) (by rfl)) rfl ?_
        exact RetR.mk rfl rfl HH.out.dropBlk.dropBlk.below
      · have e1 : fromC (j : Int) p.length = 0 := by unfold fromC; rw [if_neg h10, if_neg (by rw [hq]; omega)]
        obtain ⟨d, hd⟩ : ∃ d, curAt j x p p.length = d := ⟨_, rfl⟩
        have e2 : fromV x (j : Int) p = d := by unfold fromV; rw [if_pos e1]; exact hd
        have HD := hid hd
        rw [e1, e2]
        clear e1 e2 hq hd
        go_enter Try.func54, Try.ntmps54
        go_wp2_with (first
          | ((first
              | ((with_reducible apply wpL_skip); rfl; skip)
              | ((with_reducible apply wpL_shlP (m := 1) (k := p.length) (r := q)); rfl; rfl; rfl; rfl; (exact (by omega)); (exact HQ1.out); (exact HW.out); rfl)
              | (go_at_call 73; (have hcall_ := hid (climb_any _ _ [] (fun _ => []) [] 77 #[] kB77 (.slice ao p.length cap) x p j (fun bs w1 h1 => h1.sl (HH.out.sl HP.out)) (by omega) (by omega) (Holds.init _) (fun k _ ex w1 h1 => (from1_any w1 _ _ _).mono fun e w2 hq => ⟨hq.1, h1.grow hq.2⟩))); (with_reducible refine hcall_.out.mono ?_); clear hcall_; rw [HD.out]; rintro e_ w2_ ⟨rfl, hb_⟩; (have hq_ := HH.out.grow hb_.below); clear HH; have HH := hid hq_; clear hq_ hb_)
              | ((with_reducible apply wpL_storeC (t := 34) (vs := d.cells)); rfl; rfl; (exact kS34); (exact HH.out); (exact .here); (exact Arr.len _); (exact cells_one _); (exact Arr.len _); rfl; (intro w_ hq_; clear HH; have HH := hid hq_; clear hq_))
              | ((with_reducible apply wpL_nilCheck); rfl; rfl)
              | ((with_reducible apply wpL_loadArr (t := 34) kA34 HH.out); rfl; (first | exact .here | exact .there .here | exact .there (.there .here) | exact .there (.there (.there .here)) | exact .there (.there (.there (.there .here))) | exact .there (.there (.there (.there (.there .here)))) | exact .there (.there (.there (.there (.there (.there .here))))) | exact .there (.there (.there (.there (.there (.there (.there .here))))))); rfl)
              | ((with_reducible apply wpL_loadC (t := 34) kA34 HH.out); rfl; (first | exact .here | exact .there .here | exact .there (.there .here) | exact .there (.there (.there .here)) | exact .there (.there (.there (.there .here))) | exact .there (.there (.there (.there (.there .here)))) | exact .there (.there (.there (.there (.there (.there .here))))) | exact .there (.there (.there (.there (.there (.there (.there .here))))))); (first | rfl | exact Arr.len _ | (simp; done)); rfl)
              | ((with_reducible apply wpL_len (t := 46) Try.underlying46); rfl; rfl)
              | ((with_reducible apply wpL_boxArr (dst := some 3)); rfl; (exact HH.out); rfl; (intro g3_ w_ hq_; (try simp only [List.set_cons_zero, List.set_cons_succ] at hq_); clear HH; have HH := hid hq_; clear hq_))
              | ((with_reducible apply wpL_allocC (dst := some 6) kZ34 HH.out); rfl; (intro g6_ w_ hq_; (try simp only [List.set_cons_zero, List.set_cons_succ] at hq_); clear HH; have HH := hid hq_; clear hq_))
              | ((with_reducible apply wpL_storeArr (t := 34) kS34 HH.out); rfl; rfl; (first | exact .here | exact .there .here | exact .there (.there .here) | exact .there (.there (.there .here)) | exact .there (.there (.there (.there .here))) | exact .there (.there (.there (.there (.there .here)))) | exact .there (.there (.there (.there (.there (.there .here))))) | exact .there (.there (.there (.there (.there (.there (.there .here))))))); (first | rfl | exact Arr.len _ | (simp; done)); rfl; (intro w_ hq_; (try simp only [List.set_cons_zero, List.set_cons_succ] at hq_); clear HH; have HH := hid hq_; clear hq_))
              | ((with_reducible apply wpL_storeC (t := 34)); rfl; rfl; (exact kS34); (exact HH.out); (first | exact .here | exact .there .here | exact .there (.there .here) | exact .there (.there (.there .here)) | exact .there (.there (.there (.there .here))) | exact .there (.there (.there (.there (.there .here)))) | exact .there (.there (.there (.there (.there (.there .here))))) | exact .there (.there (.there (.there (.there (.there (.there .here))))))); (first | rfl | exact Arr.len _ | (simp; done)); (first | rfl | (intro u_ hu_; simp only [List.mem_cons, List.not_mem_nil, or_false] at hu_; rcases hu_ with rfl | hu_; rfl) | exact byt_cell1 _ | exact cells_one _ | exact wrd_one _ | exact flat_cell1 _); (first | rfl | exact Arr.len _ | (simp; done)); rfl; (intro w_ hq_; (try simp only [List.set_cons_zero, List.set_cons_succ] at hq_); clear HH; have HH := hid hq_; clear hq_))
              | ((with_reducible apply wpL_move); rfl; rfl)
              | ((with_reducible apply wpL_assign); rfl; rfl)
              | ((with_reducible apply wpL_pick); rfl; rfl; rfl)
              | ((with_reducible apply wpL_not); rfl; rfl)
              | ((with_reducible apply wpL_cmp (b := true)); rfl; rfl; rfl; (first | rfl | assumption | (simp only [cmpB, decide_eq_true_eq, decide_eq_false_iff_not, beq_iff_eq, bne_iff_ne, ne_eq, beq_eq_false_iff_ne, bne_eq_false_iff_eq, gt_iff_lt, ge_iff_le]; omega) | (simp; omega)); rfl)
              | ((with_reducible apply wpL_cmp (b := false)); rfl; rfl; rfl; (first | rfl | assumption | (simp only [cmpB, decide_eq_true_eq, decide_eq_false_iff_not, beq_iff_eq, bne_iff_ne, ne_eq, beq_eq_false_iff_ne, bne_eq_false_iff_eq, gt_iff_lt, ge_iff_le]; omega) | (simp; omega)); rfl)
              | ((with_reducible apply wpL_cmp); rfl; rfl; rfl; rfl; rfl)
              | ((with_reducible apply wpL_arith); rfl; rfl; rfl; (exact IntWalk.i64_in _ (by (try simp only [arithI]); omega)); rfl)); (try simp only [arithI, Act.put, Act.eval, List.setIfInBounds_toArray, List.set_cons_succ, List.set_cons_zero, Array.getD_eq_getD_getElem?, List.getElem?_toArray, List.getElem?_cons_succ, List.getElem?_cons_zero, Option.getD_some])))
        refine bodyPost_ret (res2 rfl (resC kA34 HH.out (by rfl) .here (Arr.len _)) (by rfl)) rfl ?_
        exact RetR.mk rfl rfl HH.out.dropBlk.dropBlk.below
/-- What Verify answers. -/
def verB (r x : Nd) (i : Int) (p : List Nd) : Bool := fromC i p.length == 0 && fromV x i p == r
set_option maxRecDepth 100000 in
set_option maxHeartbeats 4000000 in
theorem verify_any (w : World) (v : Value) (r x : Nd) (i : Int) (p : List Nd) (hp : Arrs w v p) (hn : p.length ≤ 1000000000) : Calls Try.prog 53 #[r.val, x.val, .int .i64 i, v] w (RetB w (verB r x i p)) := by
  obtain ⟨ao, cap, rfl, _⟩ := hp.shape
  have HP := hid hp
  clear hp
  have HH := hid (Holds.init w)
  obtain ⟨c, hc⟩ : ∃ c, fromC i p.length = c := ⟨_, rfl⟩
  obtain ⟨d, hd⟩ : ∃ d, fromV x i p = d := ⟨_, rfl⟩
  have HC := hid hc
  have HD := hid hd
  obtain ⟨b, hb⟩ : ∃ b, verB r x i p = b := ⟨_, rfl⟩
  have hvb := hb
  unfold verB at hvb
  rw [hc, hd] at hvb
  have HB := hid hvb
  rw [hb]
  clear hb hvb hc hd
  by_cases h0 : c = 0
  · subst h0
    have HE := hid (show (d == r) = b by rw [← HB.out]; simp)
    go_enter Try.func53, Try.ntmps53
    go_wp2_with (first
      | ((first
          | ((with_reducible apply wpL_skip); rfl; skip)
          | (go_at_call 54; (have hcall_ := hid (from_any _ (.slice ao p.length cap) x i p (HH.out.sl HP.out) hn)); (with_reducible refine hcall_.out.mono ?_); clear hcall_; rw [HC.out, HD.out]; rintro e_ w2_ ⟨rfl, hb_⟩; (have hq_ := HH.out.grow hb_); clear HH; have HH := hid hq_; clear hq_ hb_)
          | ((with_reducible apply wpL_eqlA (b := b) (p := d) (q := r) kR34); rfl; rfl; (exact HE.out); rfl)
          | ((with_reducible apply wpL_nilCheck); rfl; rfl)
          | ((with_reducible apply wpL_loadArr (t := 34) kA34 HH.out); rfl; (first | exact .here | exact .there .here | exact .there (.there .here) | exact .there (.there (.there .here)) | exact .there (.there (.there (.there .here))) | exact .there (.there (.there (.there (.there .here)))) | exact .there (.there (.there (.there (.there (.there .here))))) | exact .there (.there (.there (.there (.there (.there (.there .here))))))); rfl)
          | ((with_reducible apply wpL_loadC (t := 34) kA34 HH.out); rfl; (first | exact .here | exact .there .here | exact .there (.there .here) | exact .there (.there (.there .here)) | exact .there (.there (.there (.there .here))) | exact .there (.there (.there (.there (.there .here)))) | exact .there (.there (.there (.there (.there (.there .here))))) | exact .there (.there (.there (.there (.there (.there (.there .here))))))); (first | rfl | exact Arr.len _ | (simp; done)); rfl)
          | ((with_reducible apply wpL_boxArr (dst := some 4)); rfl; (exact HH.out); rfl; (intro g4_ w_ hq_; (try simp only [List.set_cons_zero, List.set_cons_succ] at hq_); clear HH; have HH := hid hq_; clear hq_))
          | ((with_reducible apply wpL_boxArr (dst := some 5)); rfl; (exact HH.out); rfl; (intro g5_ w_ hq_; (try simp only [List.set_cons_zero, List.set_cons_succ] at hq_); clear HH; have HH := hid hq_; clear hq_))
          | ((with_reducible apply wpL_allocC (dst := some 9) kZ34 HH.out); rfl; (intro g9_ w_ hq_; (try simp only [List.set_cons_zero, List.set_cons_succ] at hq_); clear HH; have HH := hid hq_; clear hq_))
          | ((with_reducible apply wpL_storeArr (t := 34) kS34 HH.out); rfl; rfl; (first | exact .here | exact .there .here | exact .there (.there .here) | exact .there (.there (.there .here)) | exact .there (.there (.there (.there .here))) | exact .there (.there (.there (.there (.there .here)))) | exact .there (.there (.there (.there (.there (.there .here))))) | exact .there (.there (.there (.there (.there (.there (.there .here))))))); (first | rfl | exact Arr.len _ | (simp; done)); rfl; (intro w_ hq_; (try simp only [List.set_cons_zero, List.set_cons_succ] at hq_); clear HH; have HH := hid hq_; clear hq_))
          | ((with_reducible apply wpL_storeC (t := 34)); rfl; rfl; (exact kS34); (exact HH.out); (first | exact .here | exact .there .here | exact .there (.there .here) | exact .there (.there (.there .here)) | exact .there (.there (.there (.there .here))) | exact .there (.there (.there (.there (.there .here)))) | exact .there (.there (.there (.there (.there (.there .here))))) | exact .there (.there (.there (.there (.there (.there (.there .here))))))); (first | rfl | exact Arr.len _ | (simp; done)); (first | rfl | (intro u_ hu_; simp only [List.mem_cons, List.not_mem_nil, or_false] at hu_; rcases hu_ with rfl | hu_; rfl) | exact byt_cell1 _ | exact cells_one _ | exact wrd_one _ | exact flat_cell1 _); (first | rfl | exact Arr.len _ | (simp; done)); rfl; (intro w_ hq_; (try simp only [List.set_cons_zero, List.set_cons_succ] at hq_); clear HH; have HH := hid hq_; clear hq_))
          | ((with_reducible apply wpL_move); rfl; rfl)
          | ((with_reducible apply wpL_assign); rfl; rfl)
          | ((with_reducible apply wpL_pick); rfl; rfl; rfl)
          | ((with_reducible apply wpL_not); rfl; rfl)
          | ((with_reducible apply wpL_cmp (b := true)); rfl; rfl; rfl; (first | rfl | assumption | (simp only [cmpB, decide_eq_true_eq, decide_eq_false_iff_not, beq_iff_eq, bne_iff_ne, ne_eq, beq_eq_false_iff_ne, bne_eq_false_iff_eq, gt_iff_lt, ge_iff_le]; omega) | (simp; omega)); rfl)
          | ((with_reducible apply wpL_cmp (b := false)); rfl; rfl; rfl; (first | rfl | assumption | (simp only [cmpB, decide_eq_true_eq, decide_eq_false_iff_not, beq_iff_eq, bne_iff_ne, ne_eq, beq_eq_false_iff_ne, bne_eq_false_iff_eq, gt_iff_lt, ge_iff_le]; omega) | (simp; omega)); rfl)
          | ((with_reducible apply wpL_cmp); rfl; rfl; rfl; rfl; rfl)
          | ((with_reducible apply wpL_arith); rfl; rfl; rfl; (exact IntWalk.i64_in _ (by (try simp only [arithI]); omega)); rfl)); (try simp only [arithI, Act.put, Act.eval, List.setIfInBounds_toArray, List.set_cons_succ, List.set_cons_zero, Array.getD_eq_getD_getElem?, List.getElem?_toArray, List.getElem?_cons_succ, List.getElem?_cons_zero, Option.getD_some])))
    go_ret
    exact RetB.mk rfl HH.out.dropBlk.dropBlk.dropBlk.below
  · have hcb : (c == 0) = false := by simpa using h0
    have HE := hid (show false = b by rw [← HB.out, hcb]; rfl)
    go_enter Try.func53, Try.ntmps53
    go_wp2_with (first
      | ((first
          | ((with_reducible apply wpL_skip); rfl; skip)
          | (go_at_call 54; (have hcall_ := hid (from_any _ (.slice ao p.length cap) x i p (HH.out.sl HP.out) hn)); (with_reducible refine hcall_.out.mono ?_); clear hcall_; rw [HC.out, HD.out]; rintro e_ w2_ ⟨rfl, hb_⟩; (have hq_ := HH.out.grow hb_); clear HH; have HH := hid hq_; clear hq_ hb_)
          | ((with_reducible apply wpL_nilCheck); rfl; rfl)
          | ((with_reducible apply wpL_loadArr (t := 34) kA34 HH.out); rfl; (first | exact .here | exact .there .here | exact .there (.there .here) | exact .there (.there (.there .here)) | exact .there (.there (.there (.there .here))) | exact .there (.there (.there (.there (.there .here)))) | exact .there (.there (.there (.there (.there (.there .here))))) | exact .there (.there (.there (.there (.there (.there (.there .here))))))); rfl)
          | ((with_reducible apply wpL_loadC (t := 34) kA34 HH.out); rfl; (first | exact .here | exact .there .here | exact .there (.there .here) | exact .there (.there (.there .here)) | exact .there (.there (.there (.there .here))) | exact .there (.there (.there (.there (.there .here)))) | exact .there (.there (.there (.there (.there (.there .here))))) | exact .there (.there (.there (.there (.there (.there (.there .here))))))); (first | rfl | exact Arr.len _ | (simp; done)); rfl)
          | ((with_reducible apply wpL_boxArr (dst := some 4)); rfl; (exact HH.out); rfl; (intro g4_ w_ hq_; (try simp only [List.set_cons_zero, List.set_cons_succ] at hq_); clear HH; have HH := hid hq_; clear hq_))
          | ((with_reducible apply wpL_boxArr (dst := some 5)); rfl; (exact HH.out); rfl; (intro g5_ w_ hq_; (try simp only [List.set_cons_zero, List.set_cons_succ] at hq_); clear HH; have HH := hid hq_; clear hq_))
          | ((with_reducible apply wpL_allocC (dst := some 9) kZ34 HH.out); rfl; (intro g9_ w_ hq_; (try simp only [List.set_cons_zero, List.set_cons_succ] at hq_); clear HH; have HH := hid hq_; clear hq_))
          | ((with_reducible apply wpL_storeArr (t := 34) kS34 HH.out); rfl; rfl; (first | exact .here | exact .there .here | exact .there (.there .here) | exact .there (.there (.there .here)) | exact .there (.there (.there (.there .here))) | exact .there (.there (.there (.there (.there .here)))) | exact .there (.there (.there (.there (.there (.there .here))))) | exact .there (.there (.there (.there (.there (.there (.there .here))))))); (first | rfl | exact Arr.len _ | (simp; done)); rfl; (intro w_ hq_; (try simp only [List.set_cons_zero, List.set_cons_succ] at hq_); clear HH; have HH := hid hq_; clear hq_))
          | ((with_reducible apply wpL_storeC (t := 34)); rfl; rfl; (exact kS34); (exact HH.out); (first | exact .here | exact .there .here | exact .there (.there .here) | exact .there (.there (.there .here)) | exact .there (.there (.there (.there .here))) | exact .there (.there (.there (.there (.there .here)))) | exact .there (.there (.there (.there (.there (.there .here))))) | exact .there (.there (.there (.there (.there (.there (.there .here))))))); (first | rfl | exact Arr.len _ | (simp; done)); (first | rfl | (intro u_ hu_; simp only [List.mem_cons, List.not_mem_nil, or_false] at hu_; rcases hu_ with rfl | hu_; rfl) | exact byt_cell1 _ | exact cells_one _ | exact wrd_one _ | exact flat_cell1 _); (first | rfl | exact Arr.len _ | (simp; done)); rfl; (intro w_ hq_; (try simp only [List.set_cons_zero, List.set_cons_succ] at hq_); clear HH; have HH := hid hq_; clear hq_))
          | ((with_reducible apply wpL_move); rfl; rfl)
          | ((with_reducible apply wpL_assign); rfl; rfl)
          | ((with_reducible apply wpL_pick); rfl; rfl; rfl)
          | ((with_reducible apply wpL_not); rfl; rfl)
          | ((with_reducible apply wpL_cmp (b := true)); rfl; rfl; rfl; (first | rfl | assumption | (simp only [cmpB, decide_eq_true_eq, decide_eq_false_iff_not, beq_iff_eq, bne_iff_ne, ne_eq, beq_eq_false_iff_ne, bne_eq_false_iff_eq, gt_iff_lt, ge_iff_le]; omega) | (simp; omega)); rfl)
          | ((with_reducible apply wpL_cmp (b := false)); rfl; rfl; rfl; (first | rfl | assumption | (simp only [cmpB, decide_eq_true_eq, decide_eq_false_iff_not, beq_iff_eq, bne_iff_ne, ne_eq, beq_eq_false_iff_ne, bne_eq_false_iff_eq, gt_iff_lt, ge_iff_le]; omega) | (simp; omega)); rfl)
          | ((with_reducible apply wpL_cmp); rfl; rfl; rfl; rfl; rfl)
          | ((with_reducible apply wpL_arith); rfl; rfl; rfl; (exact IntWalk.i64_in _ (by (try simp only [arithI]); omega)); rfl)); (try simp only [arithI, Act.put, Act.eval, List.setIfInBounds_toArray, List.set_cons_succ, List.set_cons_zero, Array.getD_eq_getD_getElem?, List.getElem?_toArray, List.getElem?_cons_succ, List.getElem?_cons_zero, Option.getD_some])))
    go_ret
    exact RetB.mk HE.out HH.out.dropBlk.dropBlk.dropBlk.below
end Go.Proofs.Ytgkfopodhikckaa

namespace Go.Proofs.Ytgkfopodhikckaa
open Go.RowKit
attribute [local irreducible] wpQuiet wpList
set_option maxRecDepth 100000 in
theorem leaf_ne : ((sumB (leafPre 0 ++ [97])).1.take 16 == (sumB (leafPre 1 ++ [98])).1.take 16) = false := by rw [sumB_P, sumB_P]; kernel_rfl
theorem leaf_ne' : (!(leafN 0 [97] == leafN 1 [98])) = true := by
  rw [Bool.not_eq_true', beq_eq_false_iff_ne]
  intro e
  have h := leaf_ne
  have e2 : (leafN 0 [97]).1 = (leafN 1 [98]).1 := by rw [e]
  have e3 : (sumB (leafPre 0 ++ [97])).1.take 16 = (sumB (leafPre 1 ++ [98])).1.take 16 := e2
  rw [e3] at h
  simp at h
theorem check_two : checkC 2 = 0 := by decide +kernel
theorem log_two : Nat.log2 2 = 1 := by decide +kernel
theorem root_two (a b : Nd) : rootV [a, b] = joinN 1 a b := by
  unfold rootV rootN
  rw [show [a, b].length = 2 from rfl, if_pos check_two, log_two]
  rfl
theorem ver_two (a b : Nd) : verB (joinN 1 a b) b 1 [a] = true := by
  have e1 : fromC 1 [a].length = 0 := (by decide : fromC 1 1 = 0)
  have e2 : fromV b 1 [a] = joinN 1 a b := by unfold fromV; rw [if_pos e1]; rfl
  unfold verB
  rw [e1, e2]
  simp
set_option maxRecDepth 100000 in
set_option maxHeartbeats 4000000 in
theorem knownM_any (w : World) : Calls Try.prog 23 #[] w (RetB w true) := by
  have HH := hid (Holds.init w)
  obtain ⟨a, ha⟩ : ∃ a, leafN 0 [97] = a := ⟨_, rfl⟩
  obtain ⟨b, hb⟩ : ∃ b, leafN 1 [98] = b := ⟨_, rfl⟩
  have HNE := hid leaf_ne'
  rw [ha, hb] at HNE
  obtain ⟨r, hr⟩ : ∃ r, joinN 1 a b = r := ⟨_, rfl⟩
  have HR := hid (root_two a b)
  have HV := hid (ver_two a b)
  rw [hr] at HR HV
  have HJ := hid hr
  have HA := hid ha
  have HB := hid hb
  have HCK := hid (show checkC [a, b].length = 0 from check_two)
  clear ha hb hr
  go_enter Try.func23, Try.ntmps23
  go_wp2_with (first
    | ((first
        | ((with_reducible apply wpL_skip); rfl; skip)
        | ((with_reducible apply wpL_buildB [97] (dst := some 5)); rfl; rfl; (exact (by omega)); (exact HH.out); rfl; (intro g_ w_ hq_; clear HH; have HH := hid hq_; clear hq_))
        | ((with_reducible apply wpL_buildB [98] (dst := some 8)); rfl; rfl; (exact (by omega)); (exact HH.out); rfl; (intro g_ w_ hq_; clear HH; have HH := hid hq_; clear hq_))
        | ((with_reducible apply wpL_convConst (dst := some 6) (l := [97]) Try.underlying22 Try.underlying5 HH.out); rfl; rfl; rfl; (intro w_ hq_ hb_; clear HH; have HH := hid hq_; have HB6 := hid hb_; clear hq_ hb_))
        | ((with_reducible apply wpL_convConst (dst := some 9) (l := [98]) Try.underlying22 Try.underlying5 HH.out); rfl; rfl; rfl; (intro w_ hq_ hb_; clear HH; have HH := hid hq_; have HB9 := hid hb_; clear hq_ hb_))
        | (go_at_call 45; (have hcall_ := hid (leaf_any _ 0 _ [97] HB6.out (by simp))); (with_reducible refine hcall_.out.mono ?_); clear hcall_; rw [HA.out]; rintro e_ w2_ ⟨rfl, hb_⟩; (have hq_ := HH.out.grow hb_); clear HH; have HH := hid hq_; clear hq_ hb_)
        | (go_at_call 45; (have hcall_ := hid (leaf_any _ 1 _ [98] HB9.out (by simp))); (with_reducible refine hcall_.out.mono ?_); clear hcall_; rw [HB.out]; rintro e_ w2_ ⟨rfl, hb_⟩; (have hq_ := HH.out.grow hb_); clear HH; have HH := hid hq_; clear hq_ hb_)
        | ((with_reducible apply wpList_buildArr (dst := some 14) kE46 [a, b] HH.out); rfl; rfl; (exact (by decide)); rfl; (intro g_ w_ hq_; clear HH; have HH := hid hq_; clear hq_))
        | (go_at_call 38; (have hcall_ := hid (root_any _ _ [a, b] HH.out.sl0 (by simp))); (with_reducible refine hcall_.out.mono ?_); clear hcall_; rw [HR.out, HCK.out]; rintro e_ w2_ ⟨rfl, hb_⟩; (have hq_ := HH.out.grow hb_); clear HH; have HH := hid hq_; clear hq_ hb_)
        | ((with_reducible apply wpL_nilCheck); rfl; rfl)
        | ((with_reducible apply wpL_loadArr (t := 34) kA34 HH.out); rfl; (first | exact .here | exact .there .here | exact .there (.there .here) | exact .there (.there (.there .here)) | exact .there (.there (.there (.there .here))) | exact .there (.there (.there (.there (.there .here)))) | exact .there (.there (.there (.there (.there (.there .here))))) | exact .there (.there (.there (.there (.there (.there (.there .here))))))); rfl)
        | ((with_reducible apply wpL_loadC (t := 34) kA34 HH.out); rfl; (first | exact .here | exact .there .here | exact .there (.there .here) | exact .there (.there (.there .here)) | exact .there (.there (.there (.there .here))) | exact .there (.there (.there (.there (.there .here)))) | exact .there (.there (.there (.there (.there (.there .here))))) | exact .there (.there (.there (.there (.there (.there (.there .here))))))); (first | rfl | exact Arr.len _ | (simp; done)); rfl)
        | ((with_reducible apply wpL_allocC (dst := some 1) kZ34 HH.out); rfl; (intro g1_ w_ hq_; (try simp only [List.set_cons_zero, List.set_cons_succ] at hq_); clear HH; have HH := hid hq_; clear hq_))
        | ((with_reducible apply wpL_allocC (dst := some 2) kZ34 HH.out); rfl; (intro g2_ w_ hq_; (try simp only [List.set_cons_zero, List.set_cons_succ] at hq_); clear HH; have HH := hid hq_; clear hq_))
        | ((with_reducible apply wpL_allocC (dst := some 3) kZ34 HH.out); rfl; (intro g3_ w_ hq_; (try simp only [List.set_cons_zero, List.set_cons_succ] at hq_); clear HH; have HH := hid hq_; clear hq_))
        | ((with_reducible apply wpL_storeArr (t := 34) kS34 HH.out); rfl; rfl; (first | exact .here | exact .there .here | exact .there (.there .here) | exact .there (.there (.there .here)) | exact .there (.there (.there (.there .here))) | exact .there (.there (.there (.there (.there .here)))) | exact .there (.there (.there (.there (.there (.there .here))))) | exact .there (.there (.there (.there (.there (.there (.there .here))))))); (first | rfl | exact Arr.len _ | (simp; done)); rfl; (intro w_ hq_; (try simp only [List.set_cons_zero, List.set_cons_succ] at hq_); clear HH; have HH := hid hq_; clear hq_))
        | ((with_reducible apply wpL_storeC (t := 34)); rfl; rfl; (exact kS34); (exact HH.out); (first | exact .here | exact .there .here | exact .there (.there .here) | exact .there (.there (.there .here)) | exact .there (.there (.there (.there .here))) | exact .there (.there (.there (.there (.there .here)))) | exact .there (.there (.there (.there (.there (.there .here))))) | exact .there (.there (.there (.there (.there (.there (.there .here))))))); (first | rfl | exact Arr.len _ | (simp; done)); (first | rfl | (intro u_ hu_; simp only [List.mem_cons, List.not_mem_nil, or_false] at hu_; rcases hu_ with rfl | hu_; rfl) | exact byt_cell1 _ | exact cells_one _ | exact wrd_one _ | exact flat_cell1 _); (first | rfl | exact Arr.len _ | (simp; done)); rfl; (intro w_ hq_; (try simp only [List.set_cons_zero, List.set_cons_succ] at hq_); clear HH; have HH := hid hq_; clear hq_))
        | ((with_reducible apply wpL_move); rfl; rfl)
        | ((with_reducible apply wpL_assign); rfl; rfl)
        | ((with_reducible apply wpL_pick); rfl; rfl; rfl)
        | ((with_reducible apply wpL_not); rfl; rfl)
        | ((with_reducible apply wpL_cmp (b := true)); rfl; rfl; rfl; (first | rfl | assumption | (simp only [cmpB, decide_eq_true_eq, decide_eq_false_iff_not, beq_iff_eq, bne_iff_ne, ne_eq, beq_eq_false_iff_ne, bne_eq_false_iff_eq, gt_iff_lt, ge_iff_le]; omega) | (simp; omega)); rfl)
        | ((with_reducible apply wpL_cmp (b := false)); rfl; rfl; rfl; (first | rfl | assumption | (simp only [cmpB, decide_eq_true_eq, decide_eq_false_iff_not, beq_iff_eq, bne_iff_ne, ne_eq, beq_eq_false_iff_ne, bne_eq_false_iff_eq, gt_iff_lt, ge_iff_le]; omega) | (simp; omega)); rfl)
        | ((with_reducible apply wpL_cmp); rfl; rfl; rfl; rfl; rfl)
        | ((with_reducible apply wpL_arith); rfl; rfl; rfl; (exact IntWalk.i64_in _ (by (try simp only [arithI]); omega)); rfl)); (try simp only [arithI, Act.put, Act.eval, List.setIfInBounds_toArray, List.set_cons_succ, List.set_cons_zero, Array.getD_eq_getD_getElem?, List.getElem?_toArray, List.getElem?_cons_succ, List.getElem?_cons_zero, Option.getD_some])))
  refine wp_region_tailR 19 [Asr.is (.int .i64 0), Asr.is (.bool true), Asr.is (.bool true), Asr.is a.val, Asr.is b.val, Asr.is (.bool true), Asr.is (.bool true), Asr.is (.bool true), Asr.is r.val, Asr.is a.val, Asr.is b.val, Asr.is r.val, Asr.is (.bool true), Asr.is (.bool true), Asr.is (.bool true), Asr.is r.val, Asr.is b.val, Asr.is a.val, Asr.full w_.heap.size 34 16 1 (flat [a])] HH.out (by kernel_rfl) (by kernel_rfl) (by kernel_rfl) rfl ?_ ?_
  all_goals simp only [List.take_succ_cons, List.take_zero, List.drop_succ_cons, List.drop_zero]
  · refine eachD_cons ?_ (eachD_cons ?_ (eachD_cons ?_ (eachD_cons ?_ (eachD_cons ?_ (eachD_cons ?_ (eachD_cons ?_ (eachD_cons ?_ (eachD_cons ?_ (eachD_cons ?_ (eachD_cons ?_ (eachD_cons ?_ (eachD_cons ?_ (eachD_cons ?_ (eachD_cons ?_ (eachD_cons ?_ (eachD_cons ?_ (eachD_cons ?_ (eachD_cons ?_ (eachD_nil)))))))))))))))))))
    · intro a_ w1 hI hF hS
      have e4 : a_.eval (.tmp 4) = (.int .i64 0) := (hF.2.2 4 (notDst_of (by kernel_rfl))).trans rfl
      refine wantD (by rfl) ?_
      exact op_val rfl (ex_move rfl w1) e4
    · intro a_ w1 hI hF hS
      have e18 : a_.eval (.tmp 18) = (.int .i64 0) := hS ⟨0, .data⟩ (by simp) rfl _ rfl
      refine wantD (by rfl) ?_
      exact op_val rfl (ex_cmp (b := true) rfl e18 (by rfl) (by rfl) w1) rfl
    · intro a_ w1 hI hF hS
      have e19 : a_.eval (.tmp 19) = (.bool true) := hS ⟨1, .data⟩ (by simp) rfl _ rfl
      refine wantD (by rfl) ?_
      exact op_val rfl (ex_move rfl w1) e19
    · intro a_ w1 hI hF hS
      have e1 : a_.eval (.tmp 1) = (.pointer (some ⟨g1_, 0, none⟩)) := (hF.2.2 1 (notDst_of (by kernel_rfl))).trans rfl
      have e20 : a_.eval (.tmp 20) = (.bool true) := hS ⟨2, .guard⟩ (by simp) rfl _ rfl
      refine wantD (wanted_of (j := 2) (b := true) (want := true) (by rfl) (by rfl) e20 rfl) ?_
      exact op_val rfl (ex_loadA kA34 hI.1 e1 (by first | exact .here | exact .there .here | exact .there (.there .here))) rfl
    · intro a_ w1 hI hF hS
      have e2 : a_.eval (.tmp 2) = (.pointer (some ⟨g2_, 0, none⟩)) := (hF.2.2 2 (notDst_of (by kernel_rfl))).trans rfl
      have e20 : a_.eval (.tmp 20) = (.bool true) := hS ⟨2, .guard⟩ (by simp) rfl _ rfl
      refine wantD (wanted_of (j := 2) (b := true) (want := true) (by rfl) (by rfl) e20 rfl) ?_
      exact op_val rfl (ex_loadA kA34 hI.1 e2 (by first | exact .here | exact .there .here | exact .there (.there .here))) rfl
    · intro a_ w1 hI hF hS
      have e21 : a_.eval (.tmp 21) = a.val := hS ⟨3, .data⟩ (by simp) rfl _ rfl
      have e22 : a_.eval (.tmp 22) = b.val := hS ⟨4, .data⟩ (by simp) rfl _ rfl
      have e20 : a_.eval (.tmp 20) = (.bool true) := hS ⟨2, .guard⟩ (by simp) rfl _ rfl
      refine wantD (wanted_of (j := 2) (b := true) (want := true) (by rfl) (by rfl) e20 rfl) ?_
      exact op_val rfl (ex_neq_arr Try.underlying34 Try.underlying5 (by kernel_rfl) (by kernel_rfl) e21 e22 w1) (congrArg Value.bool HNE.out)
    · intro a_ w1 hI hF hS
      have e20 : a_.eval (.tmp 20) = (.bool true) := hS ⟨2, .data⟩ (by simp) rfl _ rfl
      have e23 : a_.eval (.tmp 23) = (.bool true) := hS ⟨5, .data⟩ (by simp) rfl _ rfl
      refine wantD (by rfl) ?_
      exact op_val rfl (ex_pick e20 rfl w1) e23
    · intro a_ w1 hI hF hS
      have e24 : a_.eval (.tmp 24) = (.bool true) := hS ⟨6, .data⟩ (by simp) rfl _ rfl
      refine wantD (by rfl) ?_
      exact op_val rfl (ex_move rfl w1) e24
    · intro a_ w1 hI hF hS
      have e3 : a_.eval (.tmp 3) = (.pointer (some ⟨g3_, 0, none⟩)) := (hF.2.2 3 (notDst_of (by kernel_rfl))).trans rfl
      have e25 : a_.eval (.tmp 25) = (.bool true) := hS ⟨7, .guard⟩ (by simp) rfl _ rfl
      refine wantD (wanted_of (j := 7) (b := true) (want := true) (by rfl) (by rfl) e25 rfl) ?_
      exact op_val rfl (ex_loadA kA34 hI.1 e3 (by first | exact .here | exact .there .here | exact .there (.there .here))) rfl
    · intro a_ w1 hI hF hS
      have e1 : a_.eval (.tmp 1) = (.pointer (some ⟨g1_, 0, none⟩)) := (hF.2.2 1 (notDst_of (by kernel_rfl))).trans rfl
      have e25 : a_.eval (.tmp 25) = (.bool true) := hS ⟨7, .guard⟩ (by simp) rfl _ rfl
      refine wantD (wanted_of (j := 7) (b := true) (want := true) (by rfl) (by rfl) e25 rfl) ?_
      exact op_val rfl (ex_loadA kA34 hI.1 e1 (by first | exact .here | exact .there .here | exact .there (.there .here))) rfl
    · intro a_ w1 hI hF hS
      have e2 : a_.eval (.tmp 2) = (.pointer (some ⟨g2_, 0, none⟩)) := (hF.2.2 2 (notDst_of (by kernel_rfl))).trans rfl
      have e25 : a_.eval (.tmp 25) = (.bool true) := hS ⟨7, .guard⟩ (by simp) rfl _ rfl
      refine wantD (wanted_of (j := 7) (b := true) (want := true) (by rfl) (by rfl) e25 rfl) ?_
      exact op_val rfl (ex_loadA kA34 hI.1 e2 (by first | exact .here | exact .there .here | exact .there (.there .here))) rfl
    · intro a_ w1 hI hF hS
      have e27 : a_.eval (.tmp 27) = a.val := hS ⟨9, .data⟩ (by simp) rfl _ rfl
      have e28 : a_.eval (.tmp 28) = b.val := hS ⟨10, .data⟩ (by simp) rfl _ rfl
      have e25 : a_.eval (.tmp 25) = (.bool true) := hS ⟨7, .chain⟩ (by simp) rfl _ rfl
      refine wantD (wanted_of (j := 7) (b := true) (want := true) (by rfl) (by rfl) e25 rfl) ?_
      exact op_call (args := #[.int .i64 1, a.val, b.val]) kB37 (by show #[_, a_.eval (.tmp 27), a_.eval (.tmp 28)] = _; rw [e27, e28]; rfl) ((join_any w1 1 a b).mono fun e w' ⟨he, hb⟩ => ⟨_, he, hb, by rw [HJ.out]; rfl⟩)
    · intro a_ w1 hI hF hS
      have e26 : a_.eval (.tmp 26) = r.val := hS ⟨8, .data⟩ (by simp) rfl _ rfl
      have e29 : a_.eval (.tmp 29) = r.val := hS ⟨11, .data⟩ (by simp) rfl _ rfl
      have e25 : a_.eval (.tmp 25) = (.bool true) := hS ⟨7, .guard⟩ (by simp) rfl _ rfl
      refine wantD (wanted_of (j := 7) (b := true) (want := true) (by rfl) (by rfl) e25 rfl) ?_
      exact op_val rfl (ex_eql_arr Try.underlying34 Try.underlying5 (by kernel_rfl) (by kernel_rfl) e26 e29 w1) (congrArg Value.bool (arrRefl _))
    · intro a_ w1 hI hF hS
      have e25 : a_.eval (.tmp 25) = (.bool true) := hS ⟨7, .data⟩ (by simp) rfl _ rfl
      have e30 : a_.eval (.tmp 30) = (.bool true) := hS ⟨12, .data⟩ (by simp) rfl _ rfl
      refine wantD (by rfl) ?_
      exact op_val rfl (ex_pick e25 rfl w1) e30
    · intro a_ w1 hI hF hS
      have e31 : a_.eval (.tmp 31) = (.bool true) := hS ⟨13, .data⟩ (by simp) rfl _ rfl
      refine wantD (by rfl) ?_
      exact op_val rfl (ex_move rfl w1) e31
    · intro a_ w1 hI hF hS
      have e3 : a_.eval (.tmp 3) = (.pointer (some ⟨g3_, 0, none⟩)) := (hF.2.2 3 (notDst_of (by kernel_rfl))).trans rfl
      have e32 : a_.eval (.tmp 32) = (.bool true) := hS ⟨14, .guard⟩ (by simp) rfl _ rfl
      refine wantD (wanted_of (j := 14) (b := true) (want := true) (by rfl) (by rfl) e32 rfl) ?_
      exact op_val rfl (ex_loadA kA34 hI.1 e3 (by first | exact .here | exact .there .here | exact .there (.there .here))) rfl
    · intro a_ w1 hI hF hS
      have e2 : a_.eval (.tmp 2) = (.pointer (some ⟨g2_, 0, none⟩)) := (hF.2.2 2 (notDst_of (by kernel_rfl))).trans rfl
      have e32 : a_.eval (.tmp 32) = (.bool true) := hS ⟨14, .guard⟩ (by simp) rfl _ rfl
      refine wantD (wanted_of (j := 14) (b := true) (want := true) (by rfl) (by rfl) e32 rfl) ?_
      exact op_val rfl (ex_loadA kA34 hI.1 e2 (by first | exact .here | exact .there .here | exact .there (.there .here))) rfl
    · intro a_ w1 hI hF hS
      have e1 : a_.eval (.tmp 1) = (.pointer (some ⟨g1_, 0, none⟩)) := (hF.2.2 1 (notDst_of (by kernel_rfl))).trans rfl
      have e32 : a_.eval (.tmp 32) = (.bool true) := hS ⟨14, .guard⟩ (by simp) rfl _ rfl
      refine wantD (wanted_of (j := 14) (b := true) (want := true) (by rfl) (by rfl) e32 rfl) ?_
      exact op_val rfl (ex_loadA kA34 hI.1 e1 (by first | exact .here | exact .there .here | exact .there (.there .here))) rfl
    · intro a_ w1 hI hF hS
      have e35 : a_.eval (.tmp 35) = a.val := hS ⟨17, .data⟩ (by simp) rfl _ rfl
      have e32 : a_.eval (.tmp 32) = (.bool true) := hS ⟨14, .guard⟩ (by simp) rfl _ rfl
      refine wantD (wanted_of (j := 14) (b := true) (want := true) (by rfl) (by rfl) e32 rfl) ?_
      obtain ⟨v_, w_, hr_, hb_, hA_⟩ := ex_buildArr (ρ := a_.eval) kE46 [a] (parts := #[(0, .tmp 35)]) (n := 1) rfl (by simp [e35]) (by decide) w1; exact op_new rfl hr_ hb_ (hA_ _ hI.2.size)
  intro wq hq_ hb_
  intro v0_ h0_ v1_ h1_ v2_ h2_ v3_ h3_ v4_ h4_ v5_ h5_ v6_ h6_ v7_ h7_ v8_ h8_ v9_ h9_ v10_ h10_ v11_ h11_ v12_ h12_ v13_ h13_ v14_ h14_ v15_ h15_ v16_ h16_ v17_ h17_ v18_ h18_
  have q_ : v0_ = (.int .i64 0) := h0_; clear h0_; subst q_
  have q_ : v1_ = (.bool true) := h1_; clear h1_; subst q_
  have q_ : v2_ = (.bool true) := h2_; clear h2_; subst q_
  have q_ : v3_ = a.val := h3_; clear h3_; subst q_
  have q_ : v4_ = b.val := h4_; clear h4_; subst q_
  have q_ : v5_ = (.bool true) := h5_; clear h5_; subst q_
  have q_ : v6_ = (.bool true) := h6_; clear h6_; subst q_
  have q_ : v7_ = (.bool true) := h7_; clear h7_; subst q_
  have q_ : v8_ = r.val := h8_; clear h8_; subst q_
  have q_ : v9_ = a.val := h9_; clear h9_; subst q_
  have q_ : v10_ = b.val := h10_; clear h10_; subst q_
  have q_ : v11_ = r.val := h11_; clear h11_; subst q_
  have q_ : v12_ = (.bool true) := h12_; clear h12_; subst q_
  have q_ : v13_ = (.bool true) := h13_; clear h13_; subst q_
  have q_ : v14_ = (.bool true) := h14_; clear h14_; subst q_
  have q_ : v15_ = r.val := h15_; clear h15_; subst q_
  have q_ : v16_ = b.val := h16_; clear h16_; subst q_
  have q_ : v17_ = a.val := h17_; clear h17_; subst q_
  have K18 := hid h18_; clear h18_
  simp only [endD, putsD, Act.put, List.setIfInBounds_toArray, List.set_cons_succ, List.set_cons_zero]
  have HQ := hid hq_; clear hq_
  have HB_ := hid hb_; clear hb_
  obtain ⟨aa, ca, rfl⟩ := row_shape K18.out.2
  have hq2_ := HH.out.addRow HB_.out K18.out.2
  clear HH HQ K18 HB_
  have HH := hid hq2_
  clear hq2_
  go_wp2_with (first
    | ((first
        | ((with_reducible apply wpL_skip); rfl; skip)
        | (go_at_call 53; (have hcall_ := hid (verify_any _ (.slice aa 1 ca) r b 1 [a] HH.out.sl0 (by simp))); (with_reducible refine hcall_.out.mono ?_); clear hcall_; rw [HV.out]; rintro e_ w2_ ⟨rfl, hb_⟩; (have hq_ := HH.out.grow hb_); clear HH; have HH := hid hq_; clear hq_ hb_)
        | ((with_reducible apply wpL_nilCheck); rfl; rfl)
        | ((with_reducible apply wpL_loadArr (t := 34) kA34 HH.out); rfl; (first | exact .here | exact .there .here | exact .there (.there .here) | exact .there (.there (.there .here)) | exact .there (.there (.there (.there .here))) | exact .there (.there (.there (.there (.there .here)))) | exact .there (.there (.there (.there (.there (.there .here))))) | exact .there (.there (.there (.there (.there (.there (.there .here))))))); rfl)
        | ((with_reducible apply wpL_loadC (t := 34) kA34 HH.out); rfl; (first | exact .here | exact .there .here | exact .there (.there .here) | exact .there (.there (.there .here)) | exact .there (.there (.there (.there .here))) | exact .there (.there (.there (.there (.there .here)))) | exact .there (.there (.there (.there (.there (.there .here))))) | exact .there (.there (.there (.there (.there (.there (.there .here))))))); (first | rfl | exact Arr.len _ | (simp; done)); rfl)
        | ((with_reducible apply wpL_allocC (dst := some 1) kZ34 HH.out); rfl; (intro g1_ w_ hq_; (try simp only [List.set_cons_zero, List.set_cons_succ] at hq_); clear HH; have HH := hid hq_; clear hq_))
        | ((with_reducible apply wpL_allocC (dst := some 2) kZ34 HH.out); rfl; (intro g2_ w_ hq_; (try simp only [List.set_cons_zero, List.set_cons_succ] at hq_); clear HH; have HH := hid hq_; clear hq_))
        | ((with_reducible apply wpL_allocC (dst := some 3) kZ34 HH.out); rfl; (intro g3_ w_ hq_; (try simp only [List.set_cons_zero, List.set_cons_succ] at hq_); clear HH; have HH := hid hq_; clear hq_))
        | ((with_reducible apply wpL_storeArr (t := 34) kS34 HH.out); rfl; rfl; (first | exact .here | exact .there .here | exact .there (.there .here) | exact .there (.there (.there .here)) | exact .there (.there (.there (.there .here))) | exact .there (.there (.there (.there (.there .here)))) | exact .there (.there (.there (.there (.there (.there .here))))) | exact .there (.there (.there (.there (.there (.there (.there .here))))))); (first | rfl | exact Arr.len _ | (simp; done)); rfl; (intro w_ hq_; (try simp only [List.set_cons_zero, List.set_cons_succ] at hq_); clear HH; have HH := hid hq_; clear hq_))
        | ((with_reducible apply wpL_storeC (t := 34)); rfl; rfl; (exact kS34); (exact HH.out); (first | exact .here | exact .there .here | exact .there (.there .here) | exact .there (.there (.there .here)) | exact .there (.there (.there (.there .here))) | exact .there (.there (.there (.there (.there .here)))) | exact .there (.there (.there (.there (.there (.there .here))))) | exact .there (.there (.there (.there (.there (.there (.there .here))))))); (first | rfl | exact Arr.len _ | (simp; done)); (first | rfl | (intro u_ hu_; simp only [List.mem_cons, List.not_mem_nil, or_false] at hu_; rcases hu_ with rfl | hu_; rfl) | exact byt_cell1 _ | exact cells_one _ | exact wrd_one _ | exact flat_cell1 _); (first | rfl | exact Arr.len _ | (simp; done)); rfl; (intro w_ hq_; (try simp only [List.set_cons_zero, List.set_cons_succ] at hq_); clear HH; have HH := hid hq_; clear hq_))
        | ((with_reducible apply wpL_move); rfl; rfl)
        | ((with_reducible apply wpL_assign); rfl; rfl)
        | ((with_reducible apply wpL_pick); rfl; rfl; rfl)
        | ((with_reducible apply wpL_not); rfl; rfl)
        | ((with_reducible apply wpL_cmp (b := true)); rfl; rfl; rfl; (first | rfl | assumption | (simp only [cmpB, decide_eq_true_eq, decide_eq_false_iff_not, beq_iff_eq, bne_iff_ne, ne_eq, beq_eq_false_iff_ne, bne_eq_false_iff_eq, gt_iff_lt, ge_iff_le]; omega) | (simp; omega)); rfl)
        | ((with_reducible apply wpL_cmp (b := false)); rfl; rfl; rfl; (first | rfl | assumption | (simp only [cmpB, decide_eq_true_eq, decide_eq_false_iff_not, beq_iff_eq, bne_iff_ne, ne_eq, beq_eq_false_iff_ne, bne_eq_false_iff_eq, gt_iff_lt, ge_iff_le]; omega) | (simp; omega)); rfl)
        | ((with_reducible apply wpL_cmp); rfl; rfl; rfl; rfl; rfl)
        | ((with_reducible apply wpL_arith); rfl; rfl; rfl; (exact IntWalk.i64_in _ (by (try simp only [arithI]); omega)); rfl)); (try simp only [arithI, Act.put, Act.eval, List.setIfInBounds_toArray, List.set_cons_succ, List.set_cons_zero, Array.getD_eq_getD_getElem?, List.getElem?_toArray, List.getElem?_cons_succ, List.getElem?_cons_zero, Option.getD_some])))
  go_ret
  exact RetB.mk rfl HH.out.dropRow.dropBlk.dropBlk.dropBlk.below
end Go.Proofs.Ytgkfopodhikckaa

