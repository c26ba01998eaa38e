/- A region that draws its order and that writes the call's own variables: what is held hangs on what is listed and on the slots. Over any program; no condition. -/
import Derived.Test.YtgkfopodhikckaaQ6992827
import Derived.Lib.SliceRun
set_option linter.unusedSimpArgs false
set_option linter.unusedVariables false
/- Join of the reference. No condition. -/
namespace Go.Proofs.Ytgkfopodhikckaa
open Go.RowKit
attribute [local irreducible] wpQuiet wpList
def RjRel (w : World) (pre : List UInt8) (z : Nd) (bs : List (Nat × Obj)) (v i : Value) (wr : World) : Prop :=
  ∃ (k : Nat) (l : List UInt8) (ao : Option Addr) (cap : Nat), k ≤ 16 ∧ i = .int .i64 k ∧ l = pre ++ z.1.take k ∧ v = .slice ao l.length cap ∧ Holds w [] bs [rowB ao cap l] wr
set_option maxRecDepth 100000 in
set_option maxHeartbeats 2000000 in
theorem joinR_any (w : World) (i : Int) (x y : Nd) : Calls Try.prog 47 #[.int .i64 i, x.val, y.val] w (RetA w (joinN i x y)) := by
  have HH := hid (Holds.init w)
  obtain ⟨lb, hlb⟩ : ∃ lb, i2b i = lb := ⟨_, rfl⟩
  have HLB := hid hlb
  obtain ⟨d, hd⟩ : ∃ d, joinN i x y = d := ⟨_, rfl⟩
  have HD := hid (show hashN ([1, lb] ++ x.1 ++ y.1) = d by rw [← hd, ← hlb]; rfl)
  have HX := hid x.2
  have HY := hid y.2
  obtain ⟨p0, hp0⟩ : ∃ p0, [1, lb] = p0 := ⟨_, rfl⟩
  have HP0 := hid hp0
  have HPL := hid (show p0.length = 2 by rw [← hp0]; rfl)
  rw [hp0] at HD
  rw [hd]
  clear hd hlb hp0
  go_enter Try.func47, Try.ntmps47
  go_wp2_with (first
    | ((first
        | ((with_reducible apply wpL_skip); rfl; skip)
        | ((with_reducible apply wpL_i2b (b := lb) Try.underlying3 Try.underlying5); rfl; (exact HLB.out); rfl)
        | ((with_reducible apply wpL_buildB p0); (exact HPL.out.symm); (rw [← HP0.out]; rfl); (exact (by decide)); (exact HH.out); rfl; (intro g_ w_ hq_; simp only [rowB, HPL.out] at hq_; clear HH; have HH := hid hq_; clear hq_))
        | ((with_reducible apply wpL_nilCheck); rfl; rfl)
        | ((with_reducible apply wpL_load1 (t := 5) kO5 HH.out); rfl; (first | exact .here | exact .there .here | exact .there (.there .here) | exact .there (.there (.there .here)) | exact .there (.there (.there (.there .here))) | exact .there (.there (.there (.there (.there .here)))) | exact .there (.there (.there (.there (.there (.there .here))))) | exact .there (.there (.there (.there (.there (.there (.there .here))))))); rfl; rfl)
        | ((with_reducible apply wpL_boxArr (dst := some 4)); rfl; (exact HH.out); rfl; (intro g4_ w_ hq_; (try simp only [List.set_cons_zero, List.set_cons_succ] at hq_); clear HH; have HH := hid hq_; clear hq_))
        | ((with_reducible apply wpL_boxArr (dst := some 5)); rfl; (exact HH.out); rfl; (intro g5_ w_ hq_; (try simp only [List.set_cons_zero, List.set_cons_succ] at hq_); clear HH; have HH := hid hq_; clear hq_))
        | ((with_reducible apply wpL_allocC (dst := some 6) kZ41 HH.out); rfl; (intro g6_ w_ hq_; (try simp only [List.set_cons_zero, List.set_cons_succ] at hq_); clear HH; have HH := hid hq_; clear hq_))
        | ((with_reducible apply wpL_storeArr (t := 41) kS41 HH.out); rfl; rfl; (first | exact .here | exact .there .here | exact .there (.there .here) | exact .there (.there (.there .here)) | exact .there (.there (.there (.there .here))) | exact .there (.there (.there (.there (.there .here)))) | exact .there (.there (.there (.there (.there (.there .here))))) | exact .there (.there (.there (.there (.there (.there (.there .here))))))); (first | rfl | exact Arr.len _ | (simp; done)); rfl; (intro w_ hq_; (try simp only [List.set_cons_zero, List.set_cons_succ] at hq_); clear HH; have HH := hid hq_; clear hq_))
        | ((with_reducible apply wpL_storeC (t := 41)); rfl; rfl; (exact kS41); (exact HH.out); (first | exact .here | exact .there .here | exact .there (.there .here) | exact .there (.there (.there .here)) | exact .there (.there (.there (.there .here))) | exact .there (.there (.there (.there (.there .here)))) | exact .there (.there (.there (.there (.there (.there .here))))) | exact .there (.there (.there (.there (.there (.there (.there .here))))))); (first | rfl | exact Arr.len _ | (simp; done)); (first | rfl | (intro u_ hu_; simp only [List.mem_cons, List.not_mem_nil, or_false] at hu_; rcases hu_ with rfl | hu_; rfl) | exact byt_cell1 _ | exact cells_one _ | exact wrd_one _ | exact flat_cell1 _); (first | rfl | exact Arr.len _ | (simp; done)); rfl; (intro w_ hq_; (try simp only [List.set_cons_zero, List.set_cons_succ] at hq_); clear HH; have HH := hid hq_; clear hq_))
        | ((with_reducible apply wpL_move); rfl; rfl)
        | ((with_reducible apply wpL_assign); rfl; rfl)
        | ((with_reducible apply wpL_pick); rfl; rfl; rfl)
        | ((with_reducible apply wpL_not); rfl; rfl)
        | ((with_reducible apply wpL_cmp (b := true)); rfl; rfl; rfl; (first | rfl | assumption | (simp only [cmpB, decide_eq_true_eq, decide_eq_false_iff_not, beq_iff_eq, bne_iff_ne, ne_eq, beq_eq_false_iff_ne, bne_eq_false_iff_eq, gt_iff_lt, ge_iff_le]; omega) | (simp; omega)); rfl)
        | ((with_reducible apply wpL_cmp (b := false)); rfl; rfl; rfl; (first | rfl | assumption | (simp only [cmpB, decide_eq_true_eq, decide_eq_false_iff_not, beq_iff_eq, bne_iff_ne, ne_eq, beq_eq_false_iff_ne, bne_eq_false_iff_eq, gt_iff_lt, ge_iff_le]; omega) | (simp; omega)); rfl)
        | ((with_reducible apply wpL_cmp); rfl; rfl; rfl; rfl; rfl)
        | ((with_reducible apply wpL_arith); rfl; rfl; rfl; (exact IntWalk.i64_in _ (by (try simp only [arithI]); omega)); rfl)); (try simp only [arithI, Act.put, Act.eval, List.setIfInBounds_toArray, List.set_cons_succ, List.set_cons_zero, Array.getD_eq_getD_getElem?, List.getElem?_toArray, List.getElem?_cons_succ, List.getElem?_cons_zero, Option.getD_some])))
  go_loopw [7, 8] (RjRel w p0 x [(g6_, objC Nd0.cells 41), (g5_, objC y.cells 41), (g4_, objC x.cells 41)]) (fun _ i _ => 16 - (intOf i).toNat)
  case atStart => exact ⟨0, p0, _, _, by omega, rfl, by simp, by rw [HPL.out], by rw [rowB, HPL.out]; exact HH.out⟩
  case round =>
    obtain ⟨k, l, ao1, cap1, hk, rfl, hl, rfl, hr⟩ := hrel
    clear HH
    have HH := hid hr
    have HLK := hid hl
    clear hr
    have hln : l.length ≤ 100 := by rw [hl, List.length_append, List.length_take, HPL.out]; omega
    clear hl
    by_cases hlt : k < 16
    · have hkl : k < x.1.length := by rw [HX.out]; omega
      obtain ⟨c, hc⟩ : ∃ c, x.1.getD k 0 = c := ⟨_, rfl⟩
      have HB := hid (show x.cells[0 + k]? = some (byt c) by rw [← hc, Nat.zero_add]; simp [Arr.cells, hkl])
      obtain ⟨l2, hl2⟩ : ∃ l2, l ++ [c] = l2 := ⟨_, rfl⟩
      have HL2 := hid hl2
      have HST := hid (show l2 = p0 ++ x.1.take (k + 1) by
        rw [← hl2, HLK.out, ← List.take_append_getElem hkl, List.append_assoc]
        simp [← hc, hkl])
      clear hc hl2
      go_wp2_with (first
        | ((first
            | ((with_reducible apply wpL_skip); rfl; skip)
            | ((with_reducible apply wpL_indexV0 (m := k) Try.underlying41 kS5); rfl; rfl; rfl; (exact (by omega)); rfl)
            | ((with_reducible apply wpL_load1 (j := 0 + k) (v := byt c) kO5 HH.out); rfl; (exact .there (.there .here)); (exact HB.out); rfl)
            | ((with_reducible apply wpL_buildB [c]); rfl; rfl; (exact (by decide)); (exact HH.out); rfl; (intro g_ w_ hq_; clear HH; have HH := hid hq_; clear hq_))
            | ((with_reducible apply wpL_appendBr (l := l) (l2 := [c]) (r := l2) HH.out.swap HH.out.sl0 HL2.out); rfl; rfl; (exact (by simp; omega)); rfl; rfl; rfl; (intro ao4 cap4 w_ hq_; clear HH; have HH := hid hq_.dropSnd; clear hq_))
            | ((with_reducible apply wpL_nilCheck); rfl; rfl)
            | ((with_reducible apply wpL_load1 (t := 5) kO5 HH.out); rfl; (first | exact .here | exact .there .here | exact .there (.there .here) | exact .there (.there (.there .here)) | exact .there (.there (.there (.there .here))) | exact .there (.there (.there (.there (.there .here)))) | exact .there (.there (.there (.there (.there (.there .here))))) | exact .there (.there (.there (.there (.there (.there (.there .here))))))); rfl; rfl)
            | ((with_reducible apply wpL_boxArr (dst := some 4)); rfl; (exact HH.out); rfl; (intro g4_ w_ hq_; (try simp only [List.set_cons_zero, List.set_cons_succ] at hq_); clear HH; have HH := hid hq_; clear hq_))
            | ((with_reducible apply wpL_boxArr (dst := some 5)); rfl; (exact HH.out); rfl; (intro g5_ w_ hq_; (try simp only [List.set_cons_zero, List.set_cons_succ] at hq_); clear HH; have HH := hid hq_; clear hq_))
            | ((with_reducible apply wpL_allocC (dst := some 6) kZ41 HH.out); rfl; (intro g6_ w_ hq_; (try simp only [List.set_cons_zero, List.set_cons_succ] at hq_); clear HH; have HH := hid hq_; clear hq_))
            | ((with_reducible apply wpL_storeArr (t := 41) kS41 HH.out); rfl; rfl; (first | exact .here | exact .there .here | exact .there (.there .here) | exact .there (.there (.there .here)) | exact .there (.there (.there (.there .here))) | exact .there (.there (.there (.there (.there .here)))) | exact .there (.there (.there (.there (.there (.there .here))))) | exact .there (.there (.there (.there (.there (.there (.there .here))))))); (first | rfl | exact Arr.len _ | (simp; done)); rfl; (intro w_ hq_; (try simp only [List.set_cons_zero, List.set_cons_succ] at hq_); clear HH; have HH := hid hq_; clear hq_))
            | ((with_reducible apply wpL_storeC (t := 41)); rfl; rfl; (exact kS41); (exact HH.out); (first | exact .here | exact .there .here | exact .there (.there .here) | exact .there (.there (.there .here)) | exact .there (.there (.there (.there .here))) | exact .there (.there (.there (.there (.there .here)))) | exact .there (.there (.there (.there (.there (.there .here))))) | exact .there (.there (.there (.there (.there (.there (.there .here))))))); (first | rfl | exact Arr.len _ | (simp; done)); (first | rfl | (intro u_ hu_; simp only [List.mem_cons, List.not_mem_nil, or_false] at hu_; rcases hu_ with rfl | hu_; rfl) | exact byt_cell1 _ | exact cells_one _ | exact wrd_one _ | exact flat_cell1 _); (first | rfl | exact Arr.len _ | (simp; done)); rfl; (intro w_ hq_; (try simp only [List.set_cons_zero, List.set_cons_succ] at hq_); clear HH; have HH := hid hq_; clear hq_))
            | ((with_reducible apply wpL_move); rfl; rfl)
            | ((with_reducible apply wpL_assign); rfl; rfl)
            | ((with_reducible apply wpL_pick); rfl; rfl; rfl)
            | ((with_reducible apply wpL_not); rfl; rfl)
            | ((with_reducible apply wpL_cmp (b := true)); rfl; rfl; rfl; (first | rfl | assumption | (simp only [cmpB, decide_eq_true_eq, decide_eq_false_iff_not, beq_iff_eq, bne_iff_ne, ne_eq, beq_eq_false_iff_ne, bne_eq_false_iff_eq, gt_iff_lt, ge_iff_le]; omega) | (simp; omega)); rfl)
            | ((with_reducible apply wpL_cmp (b := false)); rfl; rfl; rfl; (first | rfl | assumption | (simp only [cmpB, decide_eq_true_eq, decide_eq_false_iff_not, beq_iff_eq, bne_iff_ne, ne_eq, beq_eq_false_iff_ne, bne_eq_false_iff_eq, gt_iff_lt, ge_iff_le]; omega) | (simp; omega)); rfl)
            | ((with_reducible apply wpL_cmp); rfl; rfl; rfl; rfl; rfl)
            | ((with_reducible apply wpL_arith); rfl; rfl; rfl; (exact IntWalk.i64_in _ (by (try simp only [arithI]); omega)); rfl)); (try simp only [arithI, Act.put, Act.eval, List.setIfInBounds_toArray, List.set_cons_succ, List.set_cons_zero, Array.getD_eq_getD_getElem?, List.getElem?_toArray, List.getElem?_cons_succ, List.getElem?_cons_zero, Option.getD_some])))
      go_roundw
      case rel => exact ⟨k + 1, l2, _, _, by omega, by go_num, HST.out, rfl, HH.out⟩
      case measure => simp [intOf]; omega
    · obtain rfl : k = 16 := by omega
      have HE := hid (show l = p0 ++ x.1 by rw [HLK.out, List.take_of_length_le (by rw [HX.out]; exact Nat.le_refl _)])
      clear HLK
      obtain ⟨p1, hp1⟩ : ∃ p1, p0 ++ x.1 = p1 := ⟨_, rfl⟩
      have HP1 := hid hp1
      have HPL1 := hid (show p1.length = 18 by rw [← hp1, List.length_append, HPL.out, HX.out])
      rw [hp1] at HE HD
      clear hp1
      go_wp2_with (first
        | ((first
            | ((with_reducible apply wpL_skip); rfl; skip)
            | ((with_reducible apply wpL_nilCheck); rfl; rfl)
            | ((with_reducible apply wpL_load1 (t := 5) kO5 HH.out); rfl; (first | exact .here | exact .there .here | exact .there (.there .here) | exact .there (.there (.there .here)) | exact .there (.there (.there (.there .here))) | exact .there (.there (.there (.there (.there .here)))) | exact .there (.there (.there (.there (.there (.there .here))))) | exact .there (.there (.there (.there (.there (.there (.there .here))))))); rfl; rfl)
            | ((with_reducible apply wpL_boxArr (dst := some 4)); rfl; (exact HH.out); rfl; (intro g4_ w_ hq_; (try simp only [List.set_cons_zero, List.set_cons_succ] at hq_); clear HH; have HH := hid hq_; clear hq_))
            | ((with_reducible apply wpL_boxArr (dst := some 5)); rfl; (exact HH.out); rfl; (intro g5_ w_ hq_; (try simp only [List.set_cons_zero, List.set_cons_succ] at hq_); clear HH; have HH := hid hq_; clear hq_))
            | ((with_reducible apply wpL_allocC (dst := some 6) kZ41 HH.out); rfl; (intro g6_ w_ hq_; (try simp only [List.set_cons_zero, List.set_cons_succ] at hq_); clear HH; have HH := hid hq_; clear hq_))
            | ((with_reducible apply wpL_storeArr (t := 41) kS41 HH.out); rfl; rfl; (first | exact .here | exact .there .here | exact .there (.there .here) | exact .there (.there (.there .here)) | exact .there (.there (.there (.there .here))) | exact .there (.there (.there (.there (.there .here)))) | exact .there (.there (.there (.there (.there (.there .here))))) | exact .there (.there (.there (.there (.there (.there (.there .here))))))); (first | rfl | exact Arr.len _ | (simp; done)); rfl; (intro w_ hq_; (try simp only [List.set_cons_zero, List.set_cons_succ] at hq_); clear HH; have HH := hid hq_; clear hq_))
            | ((with_reducible apply wpL_storeC (t := 41)); rfl; rfl; (exact kS41); (exact HH.out); (first | exact .here | exact .there .here | exact .there (.there .here) | exact .there (.there (.there .here)) | exact .there (.there (.there (.there .here))) | exact .there (.there (.there (.there (.there .here)))) | exact .there (.there (.there (.there (.there (.there .here))))) | exact .there (.there (.there (.there (.there (.there (.there .here))))))); (first | rfl | exact Arr.len _ | (simp; done)); (first | rfl | (intro u_ hu_; simp only [List.mem_cons, List.not_mem_nil, or_false] at hu_; rcases hu_ with rfl | hu_; rfl) | exact byt_cell1 _ | exact cells_one _ | exact wrd_one _ | exact flat_cell1 _); (first | rfl | exact Arr.len _ | (simp; done)); rfl; (intro w_ hq_; (try simp only [List.set_cons_zero, List.set_cons_succ] at hq_); clear HH; have HH := hid hq_; clear hq_))
            | ((with_reducible apply wpL_move); rfl; rfl)
            | ((with_reducible apply wpL_assign); rfl; rfl)
            | ((with_reducible apply wpL_pick); rfl; rfl; rfl)
            | ((with_reducible apply wpL_not); rfl; rfl)
            | ((with_reducible apply wpL_cmp (b := true)); rfl; rfl; rfl; (first | rfl | assumption | (simp only [cmpB, decide_eq_true_eq, decide_eq_false_iff_not, beq_iff_eq, bne_iff_ne, ne_eq, beq_eq_false_iff_ne, bne_eq_false_iff_eq, gt_iff_lt, ge_iff_le]; omega) | (simp; omega)); rfl)
            | ((with_reducible apply wpL_cmp (b := false)); rfl; rfl; rfl; (first | rfl | assumption | (simp only [cmpB, decide_eq_true_eq, decide_eq_false_iff_not, beq_iff_eq, bne_iff_ne, ne_eq, beq_eq_false_iff_ne, bne_eq_false_iff_eq, gt_iff_lt, ge_iff_le]; omega) | (simp; omega)); rfl)
            | ((with_reducible apply wpL_cmp); rfl; rfl; rfl; rfl; rfl)
            | ((with_reducible apply wpL_arith); rfl; rfl; rfl; (exact IntWalk.i64_in _ (by (try simp only [arithI]); omega)); rfl)); (try simp only [arithI, Act.put, Act.eval, List.setIfInBounds_toArray, List.set_cons_succ, List.set_cons_zero, Array.getD_eq_getD_getElem?, List.getElem?_toArray, List.getElem?_cons_succ, List.getElem?_cons_zero, Option.getD_some])))
      go_loopw [7, 9] (RjRel w p1 y [(g6_, objC Nd0.cells 41), (g5_, objC y.cells 41), (g4_, objC x.cells 41)]) (fun _ i _ => 16 - (intOf i).toNat)
      case atStart => exact ⟨0, l, _, _, by omega, rfl, by rw [HE.out]; simp, rfl, HH.out⟩
      clear HE
      case round =>
        obtain ⟨k, l, ao1, cap1, hk, rfl, hl, rfl, hr⟩ := hrel
        clear HH
        have HH := hid hr
        have HLK := hid hl
        clear hr
        have hln : l.length ≤ 100 := by rw [hl, List.length_append, List.length_take, HPL1.out]; omega
        clear hl
        by_cases hlt : k < 16
        · have hkl : k < y.1.length := by rw [HY.out]; omega
          obtain ⟨c, hc⟩ : ∃ c, y.1.getD k 0 = c := ⟨_, rfl⟩
          have HB := hid (show y.cells[0 + k]? = some (byt c) by rw [← hc, Nat.zero_add]; simp [Arr.cells, hkl])
          obtain ⟨l2, hl2⟩ : ∃ l2, l ++ [c] = l2 := ⟨_, rfl⟩
          have HL2 := hid hl2
          have HST := hid (show l2 = p1 ++ y.1.take (k + 1) by
            rw [← hl2, HLK.out, ← List.take_append_getElem hkl, List.append_assoc]
            simp [← hc, hkl])
          clear hc hl2
          go_wp2_with (first
            | ((first
                | ((with_reducible apply wpL_skip); rfl; skip)
                | ((with_reducible apply wpL_indexV0 (m := k) Try.underlying41 kS5); rfl; rfl; rfl; (exact (by omega)); rfl)
                | ((with_reducible apply wpL_load1 (j := 0 + k) (v := byt c) kO5 HH.out); rfl; (exact .there .here); (exact HB.out); rfl)
                | ((with_reducible apply wpL_buildB [c]); rfl; rfl; (exact (by decide)); (exact HH.out); rfl; (intro g_ w_ hq_; clear HH; have HH := hid hq_; clear hq_))
                | ((with_reducible apply wpL_appendBr (l := l) (l2 := [c]) (r := l2) HH.out.swap HH.out.sl0 HL2.out); rfl; rfl; (exact (by simp; omega)); rfl; rfl; rfl; (intro ao4 cap4 w_ hq_; clear HH; have HH := hid hq_.dropSnd; clear hq_))
                | ((with_reducible apply wpL_nilCheck); rfl; rfl)
                | ((with_reducible apply wpL_load1 (t := 5) kO5 HH.out); rfl; (first | exact .here | exact .there .here | exact .there (.there .here) | exact .there (.there (.there .here)) | exact .there (.there (.there (.there .here))) | exact .there (.there (.there (.there (.there .here)))) | exact .there (.there (.there (.there (.there (.there .here))))) | exact .there (.there (.there (.there (.there (.there (.there .here))))))); rfl; rfl)
                | ((with_reducible apply wpL_boxArr (dst := some 4)); rfl; (exact HH.out); rfl; (intro g4_ w_ hq_; (try simp only [List.set_cons_zero, List.set_cons_succ] at hq_); clear HH; have HH := hid hq_; clear hq_))
                | ((with_reducible apply wpL_boxArr (dst := some 5)); rfl; (exact HH.out); rfl; (intro g5_ w_ hq_; (try simp only [List.set_cons_zero, List.set_cons_succ] at hq_); clear HH; have HH := hid hq_; clear hq_))
                | ((with_reducible apply wpL_allocC (dst := some 6) kZ41 HH.out); rfl; (intro g6_ w_ hq_; (try simp only [List.set_cons_zero, List.set_cons_succ] at hq_); clear HH; have HH := hid hq_; clear hq_))
                | ((with_reducible apply wpL_storeArr (t := 41) kS41 HH.out); rfl; rfl; (first | exact .here | exact .there .here | exact .there (.there .here) | exact .there (.there (.there .here)) | exact .there (.there (.there (.there .here))) | exact .there (.there (.there (.there (.there .here)))) | exact .there (.there (.there (.there (.there (.there .here))))) | exact .there (.there (.there (.there (.there (.there (.there .here))))))); (first | rfl | exact Arr.len _ | (simp; done)); rfl; (intro w_ hq_; (try simp only [List.set_cons_zero, List.set_cons_succ] at hq_); clear HH; have HH := hid hq_; clear hq_))
                | ((with_reducible apply wpL_storeC (t := 41)); rfl; rfl; (exact kS41); (exact HH.out); (first | exact .here | exact .there .here | exact .there (.there .here) | exact .there (.there (.there .here)) | exact .there (.there (.there (.there .here))) | exact .there (.there (.there (.there (.there .here)))) | exact .there (.there (.there (.there (.there (.there .here))))) | exact .there (.there (.there (.there (.there (.there (.there .here))))))); (first | rfl | exact Arr.len _ | (simp; done)); (first | rfl | (intro u_ hu_; simp only [List.mem_cons, List.not_mem_nil, or_false] at hu_; rcases hu_ with rfl | hu_; rfl) | exact byt_cell1 _ | exact cells_one _ | exact wrd_one _ | exact flat_cell1 _); (first | rfl | exact Arr.len _ | (simp; done)); rfl; (intro w_ hq_; (try simp only [List.set_cons_zero, List.set_cons_succ] at hq_); clear HH; have HH := hid hq_; clear hq_))
                | ((with_reducible apply wpL_move); rfl; rfl)
                | ((with_reducible apply wpL_assign); rfl; rfl)
                | ((with_reducible apply wpL_pick); rfl; rfl; rfl)
                | ((with_reducible apply wpL_not); rfl; rfl)
                | ((with_reducible apply wpL_cmp (b := true)); rfl; rfl; rfl; (first | rfl | assumption | (simp only [cmpB, decide_eq_true_eq, decide_eq_false_iff_not, beq_iff_eq, bne_iff_ne, ne_eq, beq_eq_false_iff_ne, bne_eq_false_iff_eq, gt_iff_lt, ge_iff_le]; omega) | (simp; omega)); rfl)
                | ((with_reducible apply wpL_cmp (b := false)); rfl; rfl; rfl; (first | rfl | assumption | (simp only [cmpB, decide_eq_true_eq, decide_eq_false_iff_not, beq_iff_eq, bne_iff_ne, ne_eq, beq_eq_false_iff_ne, bne_eq_false_iff_eq, gt_iff_lt, ge_iff_le]; omega) | (simp; omega)); rfl)
                | ((with_reducible apply wpL_cmp); rfl; rfl; rfl; rfl; rfl)
                | ((with_reducible apply wpL_arith); rfl; rfl; rfl; (exact IntWalk.i64_in _ (by (try simp only [arithI]); omega)); rfl)); (try simp only [arithI, Act.put, Act.eval, List.setIfInBounds_toArray, List.set_cons_succ, List.set_cons_zero, Array.getD_eq_getD_getElem?, List.getElem?_toArray, List.getElem?_cons_succ, List.getElem?_cons_zero, Option.getD_some])))
          go_roundw
          case rel => exact ⟨k + 1, l2, _, _, by omega, by go_num, HST.out, rfl, HH.out⟩
          case measure => simp [intOf]; omega
        · obtain rfl : k = 16 := by omega
          have HE := hid (show l = p1 ++ y.1 by rw [HLK.out, List.take_of_length_le (by rw [HY.out]; exact Nat.le_refl _)])
          clear HLK
          have HLN := hid (show l.length ≤ 900000 by omega)
          have HD2 := hid (show hashN l = d by rw [HE.out, HD.out])
          go_wp2_with (first
            | ((first
                | ((with_reducible apply wpL_skip); rfl; skip)
                | (go_at_call 72; (have hcall_ := hid (half_any _ _ l HH.out.sl0 HLN.out)); (with_reducible refine hcall_.out.mono ?_); clear hcall_; rw [HD2.out]; rintro e_ w2_ ⟨rfl, hb_⟩; (have hq_ := HH.out.grow hb_); clear HH; have HH := hid hq_; clear hq_ hb_)
                | ((with_reducible apply wpL_storeC (t := 41) (vs := d.cells)); rfl; rfl; (exact kS41); (exact HH.out); (exact .here); (exact Arr.len _); (exact cells_one _); (exact Arr.len _); rfl; (intro w_ hq_; clear HH; have HH := hid hq_; clear hq_))
                | ((with_reducible apply wpL_nilCheck); rfl; rfl)
                | ((with_reducible apply wpL_load1 (t := 5) kO5 HH.out); rfl; (first | exact .here | exact .there .here | exact .there (.there .here) | exact .there (.there (.there .here)) | exact .there (.there (.there (.there .here))) | exact .there (.there (.there (.there (.there .here)))) | exact .there (.there (.there (.there (.there (.there .here))))) | exact .there (.there (.there (.there (.there (.there (.there .here))))))); rfl; rfl)
                | ((with_reducible apply wpL_boxArr (dst := some 4)); rfl; (exact HH.out); rfl; (intro g4_ w_ hq_; (try simp only [List.set_cons_zero, List.set_cons_succ] at hq_); clear HH; have HH := hid hq_; clear hq_))
                | ((with_reducible apply wpL_boxArr (dst := some 5)); rfl; (exact HH.out); rfl; (intro g5_ w_ hq_; (try simp only [List.set_cons_zero, List.set_cons_succ] at hq_); clear HH; have HH := hid hq_; clear hq_))
                | ((with_reducible apply wpL_allocC (dst := some 6) kZ41 HH.out); rfl; (intro g6_ w_ hq_; (try simp only [List.set_cons_zero, List.set_cons_succ] at hq_); clear HH; have HH := hid hq_; clear hq_))
                | ((with_reducible apply wpL_storeArr (t := 41) kS41 HH.out); rfl; rfl; (first | exact .here | exact .there .here | exact .there (.there .here) | exact .there (.there (.there .here)) | exact .there (.there (.there (.there .here))) | exact .there (.there (.there (.there (.there .here)))) | exact .there (.there (.there (.there (.there (.there .here))))) | exact .there (.there (.there (.there (.there (.there (.there .here))))))); (first | rfl | exact Arr.len _ | (simp; done)); rfl; (intro w_ hq_; (try simp only [List.set_cons_zero, List.set_cons_succ] at hq_); clear HH; have HH := hid hq_; clear hq_))
                | ((with_reducible apply wpL_storeC (t := 41)); rfl; rfl; (exact kS41); (exact HH.out); (first | exact .here | exact .there .here | exact .there (.there .here) | exact .there (.there (.there .here)) | exact .there (.there (.there (.there .here))) | exact .there (.there (.there (.there (.there .here)))) | exact .there (.there (.there (.there (.there (.there .here))))) | exact .there (.there (.there (.there (.there (.there (.there .here))))))); (first | rfl | exact Arr.len _ | (simp; done)); (first | rfl | (intro u_ hu_; simp only [List.mem_cons, List.not_mem_nil, or_false] at hu_; rcases hu_ with rfl | hu_; rfl) | exact byt_cell1 _ | exact cells_one _ | exact wrd_one _ | exact flat_cell1 _); (first | rfl | exact Arr.len _ | (simp; done)); rfl; (intro w_ hq_; (try simp only [List.set_cons_zero, List.set_cons_succ] at hq_); clear HH; have HH := hid hq_; clear hq_))
                | ((with_reducible apply wpL_move); rfl; rfl)
                | ((with_reducible apply wpL_assign); rfl; rfl)
                | ((with_reducible apply wpL_pick); rfl; rfl; rfl)
                | ((with_reducible apply wpL_not); rfl; rfl)
                | ((with_reducible apply wpL_cmp (b := true)); rfl; rfl; rfl; (first | rfl | assumption | (simp only [cmpB, decide_eq_true_eq, decide_eq_false_iff_not, beq_iff_eq, bne_iff_ne, ne_eq, beq_eq_false_iff_ne, bne_eq_false_iff_eq, gt_iff_lt, ge_iff_le]; omega) | (simp; omega)); rfl)
                | ((with_reducible apply wpL_cmp (b := false)); rfl; rfl; rfl; (first | rfl | assumption | (simp only [cmpB, decide_eq_true_eq, decide_eq_false_iff_not, beq_iff_eq, bne_iff_ne, ne_eq, beq_eq_false_iff_ne, bne_eq_false_iff_eq, gt_iff_lt, ge_iff_le]; omega) | (simp; omega)); rfl)
                | ((with_reducible apply wpL_cmp); rfl; rfl; rfl; rfl; rfl)
                | ((with_reducible apply wpL_arith); rfl; rfl; rfl; (exact IntWalk.i64_in _ (by (try simp only [arithI]); omega)); rfl)); (try simp only [arithI, Act.put, Act.eval, List.setIfInBounds_toArray, List.set_cons_succ, List.set_cons_zero, Array.getD_eq_getD_getElem?, List.getElem?_toArray, List.getElem?_cons_succ, List.getElem?_cons_zero, Option.getD_some])))
          refine bodyPost_ret (res1 rfl (resC kA41 HH.out (by rfl) .here (Arr.len _))) rfl ?_
          exact ⟨rfl, HH.out.below⟩
end Go.Proofs.Ytgkfopodhikckaa

/- The levels of a tree, plainly; check and Clone of merkle. Condition: at most 2^47 bytes. -/
namespace Go.Proofs.Ytgkfopodhikckaa
open Go.RowKit
attribute [local irreducible] wpQuiet wpList
theorem Holds.perm {w0 w : World} {S : List Nat} {bs : List (Nat × Obj)} {rows rows' : List Row} (h : Holds w0 S bs rows w) (hp : rows.Perm rows') : Holds w0 S bs rows' w :=
  ⟨h.os, h.tape, h.output, h.size, h.old, h.blk, h.frs, fun x hx => h.row x (hp.mem_iff.2 hx), (List.Perm.nodup_iff (List.Perm.append_left _ (hp.filterMap _))).1 h.sep, h.inS⟩
/-- The next level. -/
def upL (lev : Nat) : List Nd → List Nd
  | x :: y :: r => joinN (lev : Int) x y :: upL lev r
  | _ => []
theorem upL_len (lev : Nat) : ∀ (n : Nat) (l : List Nd), l.length = 2 * n → (upL lev l).length = n
  | 0, [], _ => rfl
  | 0, _ :: _, h => by simp at h
  | n + 1, [], h => by simp at h
  | n + 1, [_], h => by simp at h; omega
  | n + 1, x :: y :: r, h => by
    have : (upL lev r).length = n := upL_len lev n r (by simp at h; omega)
    simp [upL, this]
theorem upL_get (lev : Nat) : ∀ (l : List Nd) (j : Nat), 2 * j + 1 < l.length → (upL lev l)[j]? = some (joinN lev (l.getD (2 * j) Nd0) (l.getD (2 * j + 1) Nd0))
  | [], j, h => by simp at h
  | [_], j, h => by simp at h
  | x :: y :: r, 0, h => by simp [upL]
  | x :: y :: r, j + 1, h => by
    rw [upL, List.getElem?_cons_succ, upL_get lev r j (by simp at h; omega)]
    rfl
/-- Level k of the tree. -/
def levAt (l : List Nd) : Nat → List Nd
  | 0 => l
  | k + 1 => upL (k + 1) (levAt l k)
theorem levAt_len {l : List Nd} {h : Nat} (hl : l.length = 2 ^ h) : ∀ k, k ≤ h → (levAt l k).length = 2 ^ (h - k)
  | 0, _ => hl
  | k + 1, hk => by
    have ih := levAt_len hl k (by omega)
    rw [levAt]
    refine upL_len _ _ _ ?_
    rw [ih, show h - k = (h - (k + 1)) + 1 by omega, Nat.pow_succ]
    omega
/-- What check answers. -/
def checkC (n : Nat) : Int := if n = 0 then 1 else if 1024 < n then 9 else if n &&& (n - 1) = 0 then 0 else 2
theorem pow_all : ∀ n : Fin 1025, n.1 ≠ 0 → n.1 &&& (n.1 - 1) = 0 → (List.range 11).any fun h => n.1 == 2 ^ h := by decide +kernel
theorem check_pow {n : Nat} (h : checkC n = 0) : ∃ k, k ≤ 10 ∧ n = 2 ^ k := by
  unfold checkC at h
  split at h
  · cases h
  · split at h
    · cases h
    · split at h
      · rename_i h0 h1 h2
        have := pow_all ⟨n, by omega⟩ h0 h2
        obtain ⟨k, hk, hn⟩ := List.any_eq_true.1 this
        exact ⟨k, by simp at hk; omega, by simpa using hn⟩
      · cases h
def RetI (w : World) (n : Int) (e : Ending) (w' : World) : Prop := e = .returned (.int .i64 n) ∧ Below w.heap.size w w'
theorem RetI.mk {w w' : World} {b c : Int} (h : b = c) (hb : Below w.heap.size w w') : RetI w c (.returned (.int .i64 b)) w' := ⟨by rw [h], hb⟩
set_option maxRecDepth 100000 in
set_option maxHeartbeats 2000000 in
theorem check_any (w : World) (v : Value) (l : List Nd) (hl : Arrs w v l) (hn : l.length ≤ 1000000000) : Calls Try.prog 67 #[v] w (RetI w (checkC l.length)) := by
  obtain ⟨ao, cap, rfl, hc⟩ := hl.shape
  clear hl
  obtain ⟨n, hln⟩ : ∃ n, l.length = n := ⟨_, rfl⟩
  rw [hln] at hn hc
  rw [hln]
  clear hln
  have HH := hid (Holds.init w)
  by_cases h0 : n = 0
  · have e : checkC n = 1 := by unfold checkC; rw [if_pos h0]
    rw [e]
    clear e
    go_enter Try.func67, Try.ntmps67
    go_wp2_with (first
      | ((first
          | ((with_reducible apply wpL_skip); rfl; skip)
          | ((with_reducible apply wpL_nilCheck); rfl; rfl)
          | ((with_reducible apply wpL_len (t := 46) Try.underlying46); rfl; rfl)
          | ((with_reducible apply wpL_move); rfl; rfl)
          | ((with_reducible apply wpL_assign); rfl; rfl)
          | ((with_reducible apply wpL_pick); rfl; rfl; rfl)
          | ((with_reducible apply wpL_not); rfl; rfl)
          | ((with_reducible apply wpL_cmp (b := true)); rfl; rfl; rfl; (first | rfl | assumption | (simp only [cmpB, decide_eq_true_eq, decide_eq_false_iff_not, beq_iff_eq, bne_iff_ne, ne_eq, beq_eq_false_iff_ne, bne_eq_false_iff_eq, gt_iff_lt, ge_iff_le]; omega) | (simp; omega)); rfl)
          | ((with_reducible apply wpL_cmp (b := false)); rfl; rfl; rfl; (first | rfl | assumption | (simp only [cmpB, decide_eq_true_eq, decide_eq_false_iff_not, beq_iff_eq, bne_iff_ne, ne_eq, beq_eq_false_iff_ne, bne_eq_false_iff_eq, gt_iff_lt, ge_iff_le]; omega) | (simp; omega)); rfl)
          | ((with_reducible apply wpL_cmp); rfl; rfl; rfl; rfl; rfl)
          | ((with_reducible apply wpL_arith); rfl; rfl; rfl; (exact IntWalk.i64_in _ (by (try simp only [arithI]); omega)); rfl)); (try simp only [arithI, Act.put, Act.eval, List.setIfInBounds_toArray, List.set_cons_succ, List.set_cons_zero, Array.getD_eq_getD_getElem?, List.getElem?_toArray, List.getElem?_cons_succ, List.getElem?_cons_zero, Option.getD_some])))
    go_ret
    exact RetI.mk rfl HH.out.below
  · by_cases h1 : 1024 < n
    · have e : checkC n = 9 := by unfold checkC; rw [if_neg h0, if_pos h1]
      rw [e]
      clear e
      go_enter Try.func67, Try.ntmps67
      go_wp2_with (first
        | ((first
            | ((with_reducible apply wpL_skip); rfl; skip)
            | ((with_reducible apply wpL_nilCheck); rfl; rfl)
            | ((with_reducible apply wpL_len (t := 46) Try.underlying46); rfl; rfl)
            | ((with_reducible apply wpL_move); rfl; rfl)
            | ((with_reducible apply wpL_assign); rfl; rfl)
            | ((with_reducible apply wpL_pick); rfl; rfl; rfl)
            | ((with_reducible apply wpL_not); rfl; rfl)
            | ((with_reducible apply wpL_cmp (b := true)); rfl; rfl; rfl; (first | rfl | assumption | (simp only [cmpB, decide_eq_true_eq, decide_eq_false_iff_not, beq_iff_eq, bne_iff_ne, ne_eq, beq_eq_false_iff_ne, bne_eq_false_iff_eq, gt_iff_lt, ge_iff_le]; omega) | (simp; omega)); rfl)
            | ((with_reducible apply wpL_cmp (b := false)); rfl; rfl; rfl; (first | rfl | assumption | (simp only [cmpB, decide_eq_true_eq, decide_eq_false_iff_not, beq_iff_eq, bne_iff_ne, ne_eq, beq_eq_false_iff_ne, bne_eq_false_iff_eq, gt_iff_lt, ge_iff_le]; omega) | (simp; omega)); rfl)
            | ((with_reducible apply wpL_cmp); rfl; rfl; rfl; rfl; rfl)
            | ((with_reducible apply wpL_arith); rfl; rfl; rfl; (exact IntWalk.i64_in _ (by (try simp only [arithI]); omega)); rfl)); (try simp only [arithI, Act.put, Act.eval, List.setIfInBounds_toArray, List.set_cons_succ, List.set_cons_zero, Array.getD_eq_getD_getElem?, List.getElem?_toArray, List.getElem?_cons_succ, List.getElem?_cons_zero, Option.getD_some])))
      go_ret
      exact RetI.mk rfl HH.out.below
    · obtain ⟨c, hc⟩ : ∃ c, n &&& (n - 1) = c := ⟨_, rfl⟩
      have HC := hid hc
      have hcn : c ≤ 1024 := by rw [← hc]; exact Nat.le_trans Nat.and_le_left (by omega)
      have HN1 := hid (show ((n : Int) - 1) = ((n - 1 : Nat) : Int) by omega)
      have HB1 := hid (show n < 2 ^ IntKind.i64.bits from Nat.lt_of_lt_of_le (show n < 1025 by omega) (by decide))
      have HB2 := hid (show n - 1 < 2 ^ IntKind.i64.bits from Nat.lt_of_lt_of_le (show n - 1 < 1025 by omega) (by decide))
      have HW := hid (show IntKind.i64.wrap ((c : Nat) : Int) = (c : Int) from IntWalk.i64_in _ (by omega))
      by_cases hz : c = 0
      · have e : checkC n = 0 := by unfold checkC; rw [if_neg h0, if_neg h1, if_pos (by rw [hc]; exact hz)]
        rw [e]
        clear e hc
        go_enter Try.func67, Try.ntmps67
        go_wp2_with (first
          | ((first
              | ((with_reducible apply wpL_skip); rfl; skip)
              | ((with_reducible apply wpL_and (m := n) (n := n - 1) (r := c)); rfl; rfl; rfl; (exact HN1.out); (exact HB1.out); (exact HB2.out); (exact HC.out); (exact HW.out); rfl)
              | ((with_reducible apply wpL_nilCheck); rfl; rfl)
              | ((with_reducible apply wpL_len (t := 46) Try.underlying46); rfl; rfl)
              | ((with_reducible apply wpL_move); rfl; rfl)
              | ((with_reducible apply wpL_assign); rfl; rfl)
              | ((with_reducible apply wpL_pick); rfl; rfl; rfl)
              | ((with_reducible apply wpL_not); rfl; rfl)
              | ((with_reducible apply wpL_cmp (b := true)); rfl; rfl; rfl; (first | rfl | assumption | (simp only [cmpB, decide_eq_true_eq, decide_eq_false_iff_not, beq_iff_eq, bne_iff_ne, ne_eq, beq_eq_false_iff_ne, bne_eq_false_iff_eq, gt_iff_lt, ge_iff_le]; omega) | (simp; omega)); rfl)
              | ((with_reducible apply wpL_cmp (b := false)); rfl; rfl; rfl; (first | rfl | assumption | (simp only [cmpB, decide_eq_true_eq, decide_eq_false_iff_not, beq_iff_eq, bne_iff_ne, ne_eq, beq_eq_false_iff_ne, bne_eq_false_iff_eq, gt_iff_lt, ge_iff_le]; omega) | (simp; omega)); rfl)
              | ((with_reducible apply wpL_cmp); rfl; rfl; rfl; rfl; rfl)
              | ((with_reducible apply wpL_arith); rfl; rfl; rfl; (exact IntWalk.i64_in _ (by (try simp only [arithI]); omega)); rfl)); (try simp only [arithI, Act.put, Act.eval, List.setIfInBounds_toArray, List.set_cons_succ, List.set_cons_zero, Array.getD_eq_getD_getElem?, List.getElem?_toArray, List.getElem?_cons_succ, List.getElem?_cons_zero, Option.getD_some])))
        go_ret
        exact RetI.mk rfl HH.out.below
      · have e : checkC n = 2 := by unfold checkC; rw [if_neg h0, if_neg h1, if_neg (by rw [hc]; exact hz)]
        rw [e]
        clear e hc
        go_enter Try.func67, Try.ntmps67
        go_wp2_with (first
          | ((first
              | ((with_reducible apply wpL_skip); rfl; skip)
              | ((with_reducible apply wpL_and (m := n) (n := n - 1) (r := c)); rfl; rfl; rfl; (exact HN1.out); (exact HB1.out); (exact HB2.out); (exact HC.out); (exact HW.out); rfl)
              | ((with_reducible apply wpL_nilCheck); rfl; rfl)
              | ((with_reducible apply wpL_len (t := 46) Try.underlying46); rfl; rfl)
              | ((with_reducible apply wpL_move); rfl; rfl)
              | ((with_reducible apply wpL_assign); rfl; rfl)
              | ((with_reducible apply wpL_pick); rfl; rfl; rfl)
              | ((with_reducible apply wpL_not); rfl; rfl)
              | ((with_reducible apply wpL_cmp (b := true)); rfl; rfl; rfl; (first | rfl | assumption | (simp only [cmpB, decide_eq_true_eq, decide_eq_false_iff_not, beq_iff_eq, bne_iff_ne, ne_eq, beq_eq_false_iff_ne, bne_eq_false_iff_eq, gt_iff_lt, ge_iff_le]; omega) | (simp; omega)); rfl)
              | ((with_reducible apply wpL_cmp (b := false)); rfl; rfl; rfl; (first | rfl | assumption | (simp only [cmpB, decide_eq_true_eq, decide_eq_false_iff_not, beq_iff_eq, bne_iff_ne, ne_eq, beq_eq_false_iff_ne, bne_eq_false_iff_eq, gt_iff_lt, ge_iff_le]; omega) | (simp; omega)); rfl)
              | ((with_reducible apply wpL_cmp); rfl; rfl; rfl; rfl; rfl)
              | ((with_reducible apply wpL_arith); rfl; rfl; rfl; (exact IntWalk.i64_in _ (by (try simp only [arithI]); omega)); rfl)); (try simp only [arithI, Act.put, Act.eval, List.setIfInBounds_toArray, List.set_cons_succ, List.set_cons_zero, Array.getD_eq_getD_getElem?, List.getElem?_toArray, List.getElem?_cons_succ, List.getElem?_cons_zero, Option.getD_some])))
        go_ret
        exact RetI.mk rfl HH.out.below
/-- A slice of arrays, new. -/
def RetAs {n : Nat} (E : TypeId) (w : World) (l : List (Arr n)) (e : Ending) (w' : World) : Prop :=
  ∃ ao cap, e = .returned (.slice ao l.length cap) ∧ w'.ownsRow w.heap.size E n (.slice ao l.length cap) l.length (flat l) ∧ Below w.heap.size w w'
theorem RetAs.of {n : Nat} {E : TypeId} {w w' : World} {l m : List (Arr n)} {ao : Option Addr} {cap : Nat} (h : l = m) (ho : w'.ownsRow w.heap.size E n (.slice ao l.length cap) l.length (flat l)) (hb : Below w.heap.size w w') : RetAs E w m (.returned (.slice ao l.length cap)) w' := by
  subst h; exact ⟨_, _, rfl, ho, hb⟩
set_option maxRecDepth 100000 in
set_option maxHeartbeats 2000000 in
theorem cloneN_any (w : World) (v : Value) (l : List Nd) (hl : Arrs w v l) (hn : l.length ≤ 1000000000) : Calls Try.prog 82 #[v] w (RetAs 34 w l) := by
  obtain ⟨ao, cap, rfl, _⟩ := hl.shape
  have HH := hid (Holds.init w)
  have qT : ∀ (w : World) (a : Option Addr) (n c n' c' : Nat), (binOp .eql 46 (.slice a n c) (.slice none n' c')).run Try.prog w = .ok (.bool a.isNone) w := fun w a n c n' c' => Lib.run_eql_slice_nil w _ _ a n c n' c' Try.underlying46
  cases ao with
  | none =>
    have h0 : l = [] := by
      cases l with
      | nil => rfl
      | cons x l => obtain ⟨a, c, e⟩ := hl.some (by simp); cases e
    subst h0
    go_enter Try.func82, Try.ntmps82
    go_wp2
    go_ret
    exact ⟨none, 0, rfl, by simpa [flat] using World.ownsRow_nil w w.heap.size 34 16, Below.refl _ _⟩
  | some a =>
    have HL := hid hl
    clear hl
    go_enter Try.func82, Try.ntmps82
    go_wp2_with (first
      | ((first
          | ((with_reducible apply wpL_skip); rfl; skip)
          | ((with_reducible apply wpList_buildArr kE46 ([] : List Nd) HH.out); rfl; rfl; (exact (by decide)); rfl; (intro g_ w_ hq_; clear HH; have HH := hid hq_; clear hq_))
          | ((with_reducible apply wpL_appendA (n := 0) (l := ([] : List Nd)) (l2 := l) (r := l) kE46 HH.out (HH.out.sl HL.out) (List.nil_append l)); rfl; rfl; (exact (by simp; omega)); rfl; rfl; rfl; (intro ao1 cap1 w_ hq_; clear HH; have HH := hid hq_; clear hq_))
          | ((with_reducible apply wpL_nilCheck); rfl; rfl)
          | ((with_reducible apply wpL_move); rfl; rfl)
          | ((with_reducible apply wpL_assign); rfl; rfl)
          | ((with_reducible apply wpL_pick); rfl; rfl; rfl)
          | ((with_reducible apply wpL_not); rfl; rfl)
          | ((with_reducible apply wpL_cmp (b := true)); rfl; rfl; rfl; (first | rfl | assumption | (simp only [cmpB, decide_eq_true_eq, decide_eq_false_iff_not, beq_iff_eq, bne_iff_ne, ne_eq, beq_eq_false_iff_ne, bne_eq_false_iff_eq, gt_iff_lt, ge_iff_le]; omega) | (simp; omega)); rfl)
          | ((with_reducible apply wpL_cmp (b := false)); rfl; rfl; rfl; (first | rfl | assumption | (simp only [cmpB, decide_eq_true_eq, decide_eq_false_iff_not, beq_iff_eq, bne_iff_ne, ne_eq, beq_eq_false_iff_ne, bne_eq_false_iff_eq, gt_iff_lt, ge_iff_le]; omega) | (simp; omega)); rfl)
          | ((with_reducible apply wpL_cmp); rfl; rfl; rfl; rfl; rfl)
          | ((with_reducible apply wpL_arith); rfl; rfl; rfl; (exact IntWalk.i64_in _ (by (try simp only [arithI]); omega)); rfl)); (try simp only [arithI, Act.put, Act.eval, List.setIfInBounds_toArray, List.set_cons_succ, List.set_cons_zero, Array.getD_eq_getD_getElem?, List.getElem?_toArray, List.getElem?_cons_succ, List.getElem?_cons_zero, Option.getD_some])))
    go_ret
    exact ⟨_, _, rfl, HH.out.own0, HH.out.below⟩
end Go.Proofs.Ytgkfopodhikckaa

/- levels of merkle. Condition: 2^h leaves, h at most 10. -/
namespace Go.Proofs.Ytgkfopodhikckaa
open Go.RowKit
attribute [local irreducible] wpQuiet wpList
theorem Holds.third {w0 w : World} {S : List Nat} {bs : List (Nat × Obj)} {r1 r2 r3 : Row} {rows : List Row} (h : Holds w0 S bs (r1 :: r2 :: r3 :: rows) w) : Holds w0 S bs (r3 :: r1 :: r2 :: rows) w :=
  h.perm (List.perm_middle (l₁ := [r1, r2]))
/-- A slice of lists of nodes that is read. -/
def Lvs (w : World) (v : Value) (ls : List (List Nd)) : Prop :=
  ∃ cs, Sl w v 1 ls.length cs ∧ ∀ i, i < ls.length → ∃ ao cap, cs[i]? = some (.slice ao (ls.getD i []).length cap) ∧ Arrs w (.slice ao (ls.getD i []).length cap) (ls.getD i [])
def RetLv (w : World) (ls : List (List Nd)) (e : Ending) (w' : World) : Prop :=
  ∃ ao cap, e = .returned (.slice ao ls.length cap) ∧ Below w.heap.size w w' ∧ Lvs w' (.slice ao ls.length cap) ls
/-- The levels of a tree of 2^h leaves. -/
def levelsL (l : List Nd) (h : Nat) : List (List Nd) := (List.range (h + 1)).map (levAt l)
/-- The rows of the first m levels. -/
def LvRows (l : List Nd) (m : Nat) (vs : List Value) (rs : List Row) : Prop :=
  vs.length = m ∧ (∀ u ∈ vs, u.oneCell' = true) ∧ ∀ i, i < m → ∃ ao cap, vs[i]? = some (.slice ao (levAt l i).length cap) ∧ rowA 34 ao cap (levAt l i) ∈ rs
theorem LvRows.next {l : List Nd} {m : Nat} {vs : List Value} {rs : List Row} (h : LvRows l m vs rs) (ao : Option Addr) (cap : Nat) : LvRows l (m + 1) (vs ++ [.slice ao (levAt l m).length cap]) (rowA 34 ao cap (levAt l m) :: rs) := by
  refine ⟨by simp [h.1], ?_, fun i hi => ?_⟩
  · intro u hu
    rcases List.mem_append.1 hu with hu | hu
    · exact h.2.1 u hu
    · simp at hu; subst hu; rfl
  · by_cases him : i = m
    · subst him
      exact ⟨ao, cap, by rw [List.getElem?_append_right (by rw [h.1]; exact Nat.le_refl _), h.1]; simp, List.mem_cons_self⟩
    · obtain ⟨a, c, h1, h2⟩ := h.2.2 i (by omega)
      exact ⟨a, c, by rw [List.getElem?_append_left (by rw [h.1]; omega)]; exact h1, List.mem_cons_of_mem _ h2⟩
theorem LvRows.lvs {w w0 : World} {S : List Nat} {bs : List (Nat × Obj)} {l : List Nd} {h : Nat} {vs : List Value} {rs : List Row} {ao : Option Addr} {cap : Nat} (H : LvRows l (h + 1) vs rs) (hH : Holds w0 S bs (⟨.slice ao (h + 1) cap, 46, 1, h + 1, vs⟩ :: rs) w) :
    Lvs w (.slice ao (levelsL l h).length cap) (levelsL l h) := by
  have hl : (levelsL l h).length = h + 1 := by simp [levelsL]
  rw [hl]
  refine ⟨vs, by rw [hl]; exact hH.sl0, fun i hi => ?_⟩
  rw [hl] at hi
  have e : (levelsL l h).getD i [] = levAt l i := by simp [levelsL, List.getD, hi]
  rw [e]
  obtain ⟨a, c, h1, h2⟩ := H.2.2 i hi
  exact ⟨a, c, h1, hH.slrow (List.mem_cons_of_mem _ h2)⟩
theorem RetLv.of {w w' : World} {l : List Nd} {h : Nat} {vs : List Value} {rs : List Row} {ao : Option Addr} {cap : Nat} (H : LvRows l (h + 1) vs rs) (hH : Holds w [] [] (⟨.slice ao (h + 1) cap, 46, 1, h + 1, vs⟩ :: rs) w') : RetLv w (levelsL l h) (.returned (.slice ao (h + 1) cap)) w' := by
  have hl : (levelsL l h).length = h + 1 := by simp [levelsL]
  exact ⟨ao, cap, by rw [hl], hH.below, H.lvs hH⟩
section
variable {w0 w : World} {S : List Nat} {bs : List (Nat × Obj)} {rows : List Row} {ops : Array Oper} {rest : List Oper} {a : Act} {Q : Exit → Act → World → Prop} {dst : Option Tmp} {ty : TypeId} {pos : String} {after : Array Edge} {guard : Option (Nat × Bool)}
theorem wpL_buildV1 (v : Value) (h1 : v.cells = #[v]) {parts : Array (Nat × Operand)} (hp : (parts.toList.map fun p => (p.1, a.eval p.2)) = [(0, v)]) (hH : Holds w0 S bs rows w)
    (hg : Region.wanted { dst := dst, op := .buildSlice 125 1 parts, type := ty, pos := pos, after := after, guard := guard } (yielded ops a.tmps) = true)
    (h : ∀ g w', Holds w0 S bs (⟨.slice (some ⟨g, 0, none⟩) 1 1, 46, 1, 1, [v]⟩ :: rows) w' → wpList Try.prog ops Q rest (a.put dst (.slice (some ⟨g, 0, none⟩) 1 1)) w') :
    wpList Try.prog ops Q ({ dst := dst, op := .buildSlice 125 1 parts, type := ty, pos := pos, after := after, guard := guard } :: rest) a w :=
  wpList_buildSlice kE125 [v] (by intro u hu; simp only [List.mem_cons, List.not_mem_nil, or_false] at hu; subst hu; simp [h1]) (by simp) rfl hp hH (xs := [v]) (by simp [h1]) hg h
theorem wpL_appendV {ao ax : Option Addr} {ca cx n : Nat} {vs : List Value} {v : Value} (hH : Holds w0 S bs (⟨.slice ao n ca, 46, 1, n, vs⟩ :: rows) w) (hx : Sl w (.slice ax 1 cx) 1 1 [v]) (h1 : v.oneCell' = true) (hb : n ≤ 100) {s y : Operand} (hs : a.eval s = .slice ao n ca) (hy : a.eval y = .slice ax 1 cx)
    (hg : Region.wanted { dst := dst, op := .call { callee := .builtin .append, args := #[s, y], argTypes := #[125, 125] }, type := ty, pos := pos, after := after, guard := guard } (yielded ops a.tmps) = true)
    (h : ∀ ao cap w', Holds w0 S bs (⟨.slice ao (n + 1) cap, 46, 1, n + 1, vs ++ [v]⟩ :: rows) w' → wpList Try.prog ops Q rest (a.put dst (.slice ao (n + 1) cap)) w') :
    wpList Try.prog ops Q ({ dst := dst, op := .call { callee := .builtin .append, args := #[s, y], argTypes := #[125, 125] }, type := ty, pos := pos, after := after, guard := guard } :: rest) a w :=
  wpList_append kE125 hH hx (by intro u hu; simp at hu; subst hu; exact h1) (by omega) hs hy hg h
end
def LvRel1 (w : World) (l : List Nd) (h : Nat) (v i : Value) (wr : World) : Prop :=
  ∃ (k : Nat) (vs : List Value) (rs : List Row) (ao : Option Addr) (cap : Nat), k ≤ h ∧ i = .int .i64 ((k + 1 : Nat) : Int) ∧ v = .slice ao (k + 1) cap ∧ LvRows l (k + 1) vs rs ∧ Holds w [] [] (⟨.slice ao (k + 1) cap, 46, 1, k + 1, vs⟩ :: rs) wr
def LvRel2 (w : World) (m : List Nd) (rows : List Row) (v i : Value) (wr : World) : Prop :=
  ∃ (j : Nat) (r : List Nd) (ao : Option Addr) (cap : Nat), j ≤ m.length ∧ i = .int .i64 ((2 * j : Nat) : Int) ∧ r = m.take j ∧ v = .slice ao r.length cap ∧ Holds w [] [] (rowA 34 ao cap r :: rows) wr
set_option maxRecDepth 100000 in
set_option maxHeartbeats 4000000 in
theorem levels_any (w : World) (v : Value) (l : List Nd) (h : Nat) (hl : Arrs w v l) (hh : h ≤ 10) (hn : l.length = 2 ^ h) : Calls Try.prog 68 #[v] w (RetLv w (levelsL l h)) := by
  obtain ⟨ao, cap, rfl, _⟩ := hl.shape
  have HL := hid hl
  have hp10 : 2 ^ h ≤ 1024 := Nat.le_trans (Nat.pow_le_pow_right (by decide) hh) (by decide)
  have HN := hid hn
  have HCL := hid (show l.length ≤ 1000000000 by omega)
  clear hl hn
  have HH := hid (Holds.init w)
  go_enter Try.func68, Try.ntmps68
  go_wp2_with (first
    | ((first
        | ((with_reducible apply wpL_skip); rfl; skip)
        | (go_at_call 82; (with_reducible refine (cloneN_any _ _ l (HH.out.sl HL.out) HCL.out).mono ?_); rintro e_ w2_ ⟨ao0, cap0, rfl, hr_, hb_⟩; (have hq_ := HH.out.addRow hb_ hr_); clear HH; have HH := hid hq_; clear hq_ hr_ hb_)
        | ((with_reducible apply wpL_buildV1 (.slice ao0 l.length cap0) rfl); rfl; (exact HH.out); rfl; (intro g_ w_ hq_; clear HH; have HH := hid hq_; clear hq_))
        | ((with_reducible apply wpL_nilCheck); rfl; rfl)
        | ((with_reducible apply wpL_loadArr (t := 34) kA34 HH.out); rfl; (first | exact .here | exact .there .here | exact .there (.there .here) | exact .there (.there (.there .here)) | exact .there (.there (.there (.there .here))) | exact .there (.there (.there (.there (.there .here)))) | exact .there (.there (.there (.there (.there (.there .here))))) | exact .there (.there (.there (.there (.there (.there (.there .here))))))); rfl)
        | ((with_reducible apply wpL_loadC (t := 34) kA34 HH.out); rfl; (first | exact .here | exact .there .here | exact .there (.there .here) | exact .there (.there (.there .here)) | exact .there (.there (.there (.there .here))) | exact .there (.there (.there (.there (.there .here)))) | exact .there (.there (.there (.there (.there (.there .here))))) | exact .there (.there (.there (.there (.there (.there (.there .here))))))); (first | rfl | exact Arr.len _ | (simp; done)); rfl)
        | ((with_reducible apply wpL_load1 (t := 46) kO46 HH.out); rfl; (first | exact .here | exact .there .here | exact .there (.there .here) | exact .there (.there (.there .here)) | exact .there (.there (.there (.there .here))) | exact .there (.there (.there (.there (.there .here)))) | exact .there (.there (.there (.there (.there (.there .here))))) | exact .there (.there (.there (.there (.there (.there (.there .here))))))); rfl; rfl)
        | ((with_reducible apply wpL_len (t := 46) Try.underlying46); rfl; rfl)
        | ((with_reducible apply wpL_len (t := 125) Try.underlying125); rfl; rfl)
        | ((with_reducible apply wpL_move); rfl; rfl)
        | ((with_reducible apply wpL_assign); rfl; rfl)
        | ((with_reducible apply wpL_pick); rfl; rfl; rfl)
        | ((with_reducible apply wpL_not); rfl; rfl)
        | ((with_reducible apply wpL_cmp (b := true)); rfl; rfl; rfl; (first | rfl | assumption | (simp only [cmpB, decide_eq_true_eq, decide_eq_false_iff_not, beq_iff_eq, bne_iff_ne, ne_eq, beq_eq_false_iff_ne, bne_eq_false_iff_eq, gt_iff_lt, ge_iff_le]; omega) | (simp; omega)); rfl)
        | ((with_reducible apply wpL_cmp (b := false)); rfl; rfl; rfl; (first | rfl | assumption | (simp only [cmpB, decide_eq_true_eq, decide_eq_false_iff_not, beq_iff_eq, bne_iff_ne, ne_eq, beq_eq_false_iff_ne, bne_eq_false_iff_eq, gt_iff_lt, ge_iff_le]; omega) | (simp; omega)); rfl)
        | ((with_reducible apply wpL_cmp); rfl; rfl; rfl; rfl; rfl)
        | ((with_reducible apply wpL_arith); rfl; rfl; rfl; (exact IntWalk.i64_in _ (by (try simp only [arithI]); omega)); rfl)); (try simp only [arithI, Act.put, Act.eval, List.setIfInBounds_toArray, List.set_cons_succ, List.set_cons_zero, Array.getD_eq_getD_getElem?, List.getElem?_toArray, List.getElem?_cons_succ, List.getElem?_cons_zero, Option.getD_some])))
  go_loopw [3, 4] (LvRel1 w l h) (fun _ i _ => h + 1 - (intOf i).toNat)
  case atStart =>
    refine ⟨0, [.slice ao0 l.length cap0], [rowA 34 ao0 cap0 l], _, _, Nat.zero_le _, rfl, rfl, ⟨rfl, ?_, ?_⟩, HH.out⟩
    · intro u hu; simp at hu; subst hu; rfl
    · intro i hi
      obtain rfl : i = 0 := by omega
      exact ⟨ao0, cap0, rfl, List.mem_cons_self⟩
  case round =>
    obtain ⟨k, vs, rs, ao1, cap1, hk, rfl, rfl, hlv, hr⟩ := hrel
    clear HH
    have HH := hid hr
    have HLV := hid hlv
    have HLN := hid (levAt_len HN.out k hk)
    obtain ⟨aob, capb, hvk, hmem⟩ := hlv.2.2 k (by omega)
    have HVK := hid hvk
    have HMEM := hid hmem
    obtain ⟨b, hb⟩ : ∃ b, levAt l k = b := ⟨_, rfl⟩
    have HB := hid hb
    rw [hb] at HLN HVK HMEM
    obtain ⟨n, hbn⟩ : ∃ n, b.length = n := ⟨_, rfl⟩
    have HBN := hid hbn
    rw [hbn] at HLN HVK
    have hnb : n ≤ 1024 := by
      have := HLN.out
      rw [this]
      exact Nat.le_trans (Nat.pow_le_pow_right (by decide) (show h - k ≤ 10 by omega)) (by decide)
    clear hr hlv hvk hmem hb hbn
    have hn1 : 1 ≤ n := by rw [HLN.out]; exact Nat.two_pow_pos _
    obtain ⟨ad, c', e⟩ := (show Sl wr (.slice aob b.length capb) 16 b.length (flat b) from HH.out.slrow (List.mem_cons_of_mem _ HMEM.out)).some (by rw [HBN.out]; omega)
    simp only [Value.slice.injEq] at e
    obtain ⟨rfl, -, -⟩ := e
    obtain ⟨adv, cv, e⟩ := HH.out.sl0.some (by omega)
    simp only [Value.slice.injEq] at e
    obtain ⟨rfl, -, -⟩ := e
    by_cases hkh : k < h
    · obtain ⟨q, hq⟩ : ∃ q, 2 ^ (h - k - 1) = q := ⟨_, rfl⟩
      have hnq : n = 2 * q := by rw [HLN.out, ← hq, show h - k = (h - k - 1) + 1 by omega, Nat.pow_succ, Nat.add_sub_cancel]; omega
      have hq1 : 1 ≤ q := by rw [← hq]; exact Nat.two_pow_pos _
      have HUL := hid (show (upL (k + 1) b).length = q from upL_len _ _ _ (by rw [HBN.out]; exact hnq))
      clear hq
      go_wp2_with (first
        | ((first
            | ((with_reducible apply wpL_skip); rfl; skip)
            | ((with_reducible apply wpL_idxB (j := k) kE125); rfl; rfl; (exact (by omega)); (exact (by omega)); rfl)
            | ((with_reducible apply wpL_loadAt (t := 46) (v := .slice (some ad) n capb) kO46); (have hc_ := HH.out.sl0.cell k (.slice (some ad) n capb) HVK.out; exact hc_); rfl; rfl)
            | ((with_reducible apply wpL_nilCheck); rfl; rfl)
            | ((with_reducible apply wpL_loadArr (t := 34) kA34 HH.out); rfl; (first | exact .here | exact .there .here | exact .there (.there .here) | exact .there (.there (.there .here)) | exact .there (.there (.there (.there .here))) | exact .there (.there (.there (.there (.there .here)))) | exact .there (.there (.there (.there (.there (.there .here))))) | exact .there (.there (.there (.there (.there (.there (.there .here))))))); rfl)
            | ((with_reducible apply wpL_loadC (t := 34) kA34 HH.out); rfl; (first | exact .here | exact .there .here | exact .there (.there .here) | exact .there (.there (.there .here)) | exact .there (.there (.there (.there .here))) | exact .there (.there (.there (.there (.there .here)))) | exact .there (.there (.there (.there (.there (.there .here))))) | exact .there (.there (.there (.there (.there (.there (.there .here))))))); (first | rfl | exact Arr.len _ | (simp; done)); rfl)
            | ((with_reducible apply wpL_load1 (t := 46) kO46 HH.out); rfl; (first | exact .here | exact .there .here | exact .there (.there .here) | exact .there (.there (.there .here)) | exact .there (.there (.there (.there .here))) | exact .there (.there (.there (.there (.there .here)))) | exact .there (.there (.there (.there (.there (.there .here))))) | exact .there (.there (.there (.there (.there (.there (.there .here))))))); rfl; rfl)
            | ((with_reducible apply wpL_len (t := 46) Try.underlying46); rfl; rfl)
            | ((with_reducible apply wpL_len (t := 125) Try.underlying125); rfl; rfl)
            | ((with_reducible apply wpL_move); rfl; rfl)
            | ((with_reducible apply wpL_assign); rfl; rfl)
            | ((with_reducible apply wpL_pick); rfl; rfl; rfl)
            | ((with_reducible apply wpL_not); rfl; rfl)
            | ((with_reducible apply wpL_cmp (b := true)); rfl; rfl; rfl; (first | rfl | assumption | (simp only [cmpB, decide_eq_true_eq, decide_eq_false_iff_not, beq_iff_eq, bne_iff_ne, ne_eq, beq_eq_false_iff_ne, bne_eq_false_iff_eq, gt_iff_lt, ge_iff_le]; omega) | (simp; omega)); rfl)
            | ((with_reducible apply wpL_cmp (b := false)); rfl; rfl; rfl; (first | rfl | assumption | (simp only [cmpB, decide_eq_true_eq, decide_eq_false_iff_not, beq_iff_eq, bne_iff_ne, ne_eq, beq_eq_false_iff_ne, bne_eq_false_iff_eq, gt_iff_lt, ge_iff_le]; omega) | (simp; omega)); rfl)
            | ((with_reducible apply wpL_cmp); rfl; rfl; rfl; rfl; rfl)
            | ((with_reducible apply wpL_arith); rfl; rfl; rfl; (exact IntWalk.i64_in _ (by (try simp only [arithI]); omega)); rfl)); (try simp only [arithI, Act.put, Act.eval, List.setIfInBounds_toArray, List.set_cons_succ, List.set_cons_zero, Array.getD_eq_getD_getElem?, List.getElem?_toArray, List.getElem?_cons_succ, List.getElem?_cons_zero, Option.getD_some])))
      go_loopw [6, 7] (LvRel2 w (upL (k + 1) b) (⟨.slice (some adv) (k + 1) cap1, 46, 1, k + 1, vs⟩ :: rs)) (fun _ i _ => n - (intOf i).toNat)
      case atStart => exact ⟨0, [], none, 0, Nat.zero_le _, rfl, by simp, rfl, HH.out.addNil 34 16⟩
      case round =>
        obtain ⟨j, r, ao2, cap2, hj, rfl, hrj, rfl, hr⟩ := hrel
        clear HH
        have HH := hid hr
        have HRJ := hid hrj
        rw [HUL.out] at hj
        have hrl : r.length = j := by rw [hrj, List.length_take, HUL.out]; omega
        clear hr hrj
        by_cases hjq : j < q
        · have h2j : 2 * j < b.length := by rw [HBN.out]; omega
          have h2j1 : 2 * j + 1 < b.length := by rw [HBN.out]; omega
          have hub := upL_get (k + 1) b j h2j1
          have ex : b.getD (2 * j) Nd0 = b[2 * j] := by simp [h2j]
          have ey : b.getD (2 * j + 1) Nd0 = b[2 * j + 1] := by simp [h2j1]
          rw [ex, ey] at hub
          have HGX0 : ∀ w1, Holds w [] [] (rowA 34 ao2 cap2 r :: ⟨.slice (some adv) (k + 1) cap1, 46, 1, k + 1, vs⟩ :: rs) w1 → Arrs w1 (.slice (some ad) b.length capb) b := fun w1 h1 => h1.slrow (List.mem_cons_of_mem _ (List.mem_cons_of_mem _ HMEM.out))
          have HGX := hid (fun w1 h1 => Arrs.get (HGX0 w1 h1) (2 * j) h2j)
          have HGY := hid (fun w1 h1 => Arrs.get (HGX0 w1 h1) (2 * j + 1) h2j1)
          obtain ⟨x, hx⟩ : ∃ x, b[2 * j] = x := ⟨_, rfl⟩
          obtain ⟨y, hy⟩ : ∃ y, b[2 * j + 1] = y := ⟨_, rfl⟩
          rw [hx] at HGX hub
          rw [hy] at HGY hub
          obtain ⟨d, hd⟩ : ∃ d, joinN ((k + 1 : Nat) : Int) x y = d := ⟨_, rfl⟩
          have HD := hid hd
          rw [hd] at hub
          obtain ⟨r2, hr2⟩ : ∃ r2, r ++ [d] = r2 := ⟨_, rfl⟩
          have HR2 := hid hr2
          have HST := hid (show r2 = (upL (k + 1) b).take (j + 1) by
            have hju : j < (upL (k + 1) b).length := by rw [HUL.out]; exact hjq
            rw [List.getElem?_eq_getElem hju] at hub
            rw [← hr2, HRJ.out, ← List.take_append_getElem hju, Option.some.inj hub])
          clear hub ex ey HGX0 hx hy hd hr2
          go_wp2_with (first
            | ((first
                | ((with_reducible apply wpL_skip); rfl; skip)
                | ((with_reducible apply wpL_nilCheck); rfl; rfl)
                | ((with_reducible apply wpL_loadArr (t := 34) kA34 HH.out); rfl; (first | exact .here | exact .there .here | exact .there (.there .here) | exact .there (.there (.there .here)) | exact .there (.there (.there (.there .here))) | exact .there (.there (.there (.there (.there .here)))) | exact .there (.there (.there (.there (.there (.there .here))))) | exact .there (.there (.there (.there (.there (.there (.there .here))))))); rfl)
                | ((with_reducible apply wpL_loadC (t := 34) kA34 HH.out); rfl; (first | exact .here | exact .there .here | exact .there (.there .here) | exact .there (.there (.there .here)) | exact .there (.there (.there (.there .here))) | exact .there (.there (.there (.there (.there .here)))) | exact .there (.there (.there (.there (.there (.there .here))))) | exact .there (.there (.there (.there (.there (.there (.there .here))))))); (first | rfl | exact Arr.len _ | (simp; done)); rfl)
                | ((with_reducible apply wpL_load1 (t := 46) kO46 HH.out); rfl; (first | exact .here | exact .there .here | exact .there (.there .here) | exact .there (.there (.there .here)) | exact .there (.there (.there (.there .here))) | exact .there (.there (.there (.there (.there .here)))) | exact .there (.there (.there (.there (.there (.there .here))))) | exact .there (.there (.there (.there (.there (.there (.there .here))))))); rfl; rfl)
                | ((with_reducible apply wpL_len (t := 46) Try.underlying46); rfl; rfl)
                | ((with_reducible apply wpL_len (t := 125) Try.underlying125); rfl; rfl)
                | ((with_reducible apply wpL_move); rfl; rfl)
                | ((with_reducible apply wpL_assign); rfl; rfl)
                | ((with_reducible apply wpL_pick); rfl; rfl; rfl)
                | ((with_reducible apply wpL_not); rfl; rfl)
                | ((with_reducible apply wpL_cmp (b := true)); rfl; rfl; rfl; (first | rfl | assumption | (simp only [cmpB, decide_eq_true_eq, decide_eq_false_iff_not, beq_iff_eq, bne_iff_ne, ne_eq, beq_eq_false_iff_ne, bne_eq_false_iff_eq, gt_iff_lt, ge_iff_le]; omega) | (simp; omega)); rfl)
                | ((with_reducible apply wpL_cmp (b := false)); rfl; rfl; rfl; (first | rfl | assumption | (simp only [cmpB, decide_eq_true_eq, decide_eq_false_iff_not, beq_iff_eq, bne_iff_ne, ne_eq, beq_eq_false_iff_ne, bne_eq_false_iff_eq, gt_iff_lt, ge_iff_le]; omega) | (simp; omega)); rfl)
                | ((with_reducible apply wpL_cmp); rfl; rfl; rfl; rfl; rfl)
                | ((with_reducible apply wpL_arith); rfl; rfl; rfl; (exact IntWalk.i64_in _ (by (try simp only [arithI]); omega)); rfl)); (try simp only [arithI, Act.put, Act.eval, List.setIfInBounds_toArray, List.set_cons_succ, List.set_cons_zero, Array.getD_eq_getD_getElem?, List.getElem?_toArray, List.getElem?_cons_succ, List.getElem?_cons_zero, Option.getD_some])))
          refine wp_region_tailR 13 [Asr.is (.slice ao2 r.length cap2), Asr.is (.int .i64 ((k + 1 : Nat) : Int)), Asr.is (.slice (some ad) n capb), Asr.is (.int .i64 ((2 * j : Nat) : Int)), Asr.is (.pointer (some (ad.add (2 * j * 16)))), Asr.is x.val, Asr.is (.slice (some ad) n capb), Asr.is (.int .i64 ((2 * j : Nat) : Int)), Asr.is (.int .i64 ((2 * j + 1 : Nat) : Int)), Asr.is (.pointer (some (ad.add ((2 * j + 1) * 16)))), Asr.is y.val, Asr.is d.val, Asr.full wr.heap.size 34 16 1 (flat [d])] HH.out (by kernel_rfl) (by kernel_rfl) (by kernel_rfl) rfl ?_ ?_
          all_goals simp only [List.take_succ_cons, List.take_zero, List.drop_succ_cons, List.drop_zero]
          · refine eachD_cons ?_ (eachD_cons ?_ (eachD_cons ?_ (eachD_cons ?_ (eachD_cons ?_ (eachD_cons ?_ (eachD_cons ?_ (eachD_cons ?_ (eachD_cons ?_ (eachD_cons ?_ (eachD_cons ?_ (eachD_cons ?_ (eachD_cons ?_ (eachD_nil)))))))))))))
            · intro a_ w1 hI hF hS
              have e6 : a_.eval (.tmp 6) = (.slice ao2 r.length cap2) := (hF.2.2 6 (notDst_of (by kernel_rfl))).trans rfl
              refine wantD (by rfl) ?_
              exact op_val rfl (ex_move rfl w1) e6
            · intro a_ w1 hI hF hS
              have e4 : a_.eval (.tmp 4) = (.int .i64 ((k + 1 : Nat) : Int)) := (hF.2.2 4 (notDst_of (by kernel_rfl))).trans rfl
              refine wantD (by rfl) ?_
              exact op_val rfl (ex_move rfl w1) e4
            · intro a_ w1 hI hF hS
              have e5 : a_.eval (.tmp 5) = (.slice (some ad) n capb) := (hF.2.2 5 (notDst_of (by kernel_rfl))).trans rfl
              refine wantD (by rfl) ?_
              exact op_val rfl (ex_move rfl w1) e5
            · intro a_ w1 hI hF hS
              have e7 : a_.eval (.tmp 7) = (.int .i64 ((2 * j : Nat) : Int)) := (hF.2.2 7 (notDst_of (by kernel_rfl))).trans rfl
              refine wantD (by rfl) ?_
              exact op_val rfl (ex_move rfl w1) e7
            · intro a_ w1 hI hF hS
              have e34 : a_.eval (.tmp 34) = (.slice (some ad) n capb) := hS ⟨2, .data⟩ (by simp) rfl _ rfl
              have e35 : a_.eval (.tmp 35) = (.int .i64 ((2 * j : Nat) : Int)) := hS ⟨3, .data⟩ (by simp) rfl _ rfl
              refine wantD (by rfl) ?_
              exact op_val rfl (ex_index kE46 (j := 2 * j) e34 e35 rfl (by omega) w1) rfl
            · intro a_ w1 hI hF hS
              have e36 : a_.eval (.tmp 36) = (.pointer (some (ad.add (2 * j * 16)))) := hS ⟨4, .data⟩ (by simp) rfl _ rfl
              refine wantD (by rfl) ?_
              exact op_val rfl (ex_load_agg (t := 34) (sz := 16) e36 Try.underlying34 rfl (by kernel_rfl) (Arr.len x) (HGX.out w1 hI.1)) rfl
            · intro a_ w1 hI hF hS
              have e5 : a_.eval (.tmp 5) = (.slice (some ad) n capb) := (hF.2.2 5 (notDst_of (by kernel_rfl))).trans rfl
              refine wantD (by rfl) ?_
              exact op_val rfl (ex_move rfl w1) e5
            · intro a_ w1 hI hF hS
              have e7 : a_.eval (.tmp 7) = (.int .i64 ((2 * j : Nat) : Int)) := (hF.2.2 7 (notDst_of (by kernel_rfl))).trans rfl
              refine wantD (by rfl) ?_
              exact op_val rfl (ex_move rfl w1) e7
            · intro a_ w1 hI hF hS
              have e39 : a_.eval (.tmp 39) = (.int .i64 ((2 * j : Nat) : Int)) := hS ⟨7, .data⟩ (by simp) rfl _ rfl
              refine wantD (by rfl) ?_
              exact op_val rfl (ex_arith (r := ((2 * j + 1 : Nat) : Int)) rfl e39 rfl (by show IntKind.i64.wrap (((2 * j : Nat) : Int) + 1) = _; rw [IntWalk.i64_in _ (by omega)]; omega) w1) rfl
            · intro a_ w1 hI hF hS
              have e38 : a_.eval (.tmp 38) = (.slice (some ad) n capb) := hS ⟨6, .data⟩ (by simp) rfl _ rfl
              have e40 : a_.eval (.tmp 40) = (.int .i64 ((2 * j + 1 : Nat) : Int)) := hS ⟨8, .data⟩ (by simp) rfl _ rfl
              refine wantD (by rfl) ?_
              exact op_val rfl (ex_index kE46 (j := 2 * j + 1) e38 e40 rfl (by omega) w1) rfl
            · intro a_ w1 hI hF hS
              have e41 : a_.eval (.tmp 41) = (.pointer (some (ad.add ((2 * j + 1) * 16)))) := hS ⟨9, .data⟩ (by simp) rfl _ rfl
              refine wantD (by rfl) ?_
              exact op_val rfl (ex_load_agg (t := 34) (sz := 16) e41 Try.underlying34 rfl (by kernel_rfl) (Arr.len y) (HGY.out w1 hI.1)) rfl
            · intro a_ w1 hI hF hS
              have e33 : a_.eval (.tmp 33) = (.int .i64 ((k + 1 : Nat) : Int)) := hS ⟨1, .data⟩ (by simp) rfl _ rfl
              have e37 : a_.eval (.tmp 37) = x.val := hS ⟨5, .data⟩ (by simp) rfl _ rfl
              have e42 : a_.eval (.tmp 42) = y.val := hS ⟨10, .data⟩ (by simp) rfl _ rfl
              refine wantD (by rfl) ?_
              exact op_call (args := #[.int .i64 ((k + 1 : Nat) : Int), x.val, y.val]) kB37 (by show #[a_.eval (.tmp 33), a_.eval (.tmp 37), a_.eval (.tmp 42)] = _; rw [e33, e37, e42]) ((join_any w1 _ x y).mono fun e w' ⟨he, hb⟩ => ⟨_, he, hb, by rw [HD.out]; rfl⟩)
            · intro a_ w1 hI hF hS
              have e43 : a_.eval (.tmp 43) = d.val := hS ⟨11, .data⟩ (by simp) rfl _ rfl
              refine wantD (by rfl) ?_
              obtain ⟨v_, w_, hr_, hb_, hA_⟩ := ex_buildArr (ρ := a_.eval) kE46 [d] (parts := #[(0, .tmp 43)]) (n := 1) rfl (by simp [e43]) (by decide) w1; exact op_new rfl hr_ hb_ (hA_ _ hI.2.size)
          intro wq hq_ hb_
          intro v0_ h0_ v1_ h1_ v2_ h2_ v3_ h3_ v4_ h4_ v5_ h5_ v6_ h6_ v7_ h7_ v8_ h8_ v9_ h9_ v10_ h10_ v11_ h11_ v12_ h12_
          have q_ : v0_ = (.slice ao2 r.length cap2) := h0_; clear h0_; subst q_
          have q_ : v1_ = (.int .i64 ((k + 1 : Nat) : Int)) := h1_; clear h1_; subst q_
          have q_ : v2_ = (.slice (some ad) n capb) := h2_; clear h2_; subst q_
          have q_ : v3_ = (.int .i64 ((2 * j : Nat) : Int)) := h3_; clear h3_; subst q_
          have q_ : v4_ = (.pointer (some (ad.add (2 * j * 16)))) := h4_; clear h4_; subst q_
          have q_ : v5_ = x.val := h5_; clear h5_; subst q_
          have q_ : v6_ = (.slice (some ad) n capb) := h6_; clear h6_; subst q_
          have q_ : v7_ = (.int .i64 ((2 * j : Nat) : Int)) := h7_; clear h7_; subst q_
          have q_ : v8_ = (.int .i64 ((2 * j + 1 : Nat) : Int)) := h8_; clear h8_; subst q_
          have q_ : v9_ = (.pointer (some (ad.add ((2 * j + 1) * 16)))) := h9_; clear h9_; subst q_
          have q_ : v10_ = y.val := h10_; clear h10_; subst q_
          have q_ : v11_ = d.val := h11_; clear h11_; subst q_
          have K12 := hid h12_; clear h12_
          simp only [endD, putsD, Act.put, List.setIfInBounds_toArray, List.set_cons_succ, List.set_cons_zero]
          have HQ := hid hq_; clear hq_
          have HB_ := hid hb_; clear hb_
          obtain ⟨ad3, c3, rfl⟩ := row_shape K12.out.2
          have hq2_ := HH.out.addRow HB_.out K12.out.2
          clear HH HQ K12 HB_
          have HH := hid hq2_
          clear hq2_
          go_wp2_with (first
            | ((first
                | ((with_reducible apply wpL_skip); rfl; skip)
                | ((with_reducible apply wpL_appendA (l := r) (l2 := [d]) (r := r2) kE46 HH.out.swap HH.out.sl0 HR2.out); rfl; rfl; (exact (by simp; omega)); rfl; rfl; rfl; (intro ao4 cap4 w_ hq_; clear HH; have HH := hid hq_.dropSnd; clear hq_))
                | ((with_reducible apply wpL_nilCheck); rfl; rfl)
                | ((with_reducible apply wpL_loadArr (t := 34) kA34 HH.out); rfl; (first | exact .here | exact .there .here | exact .there (.there .here) | exact .there (.there (.there .here)) | exact .there (.there (.there (.there .here))) | exact .there (.there (.there (.there (.there .here)))) | exact .there (.there (.there (.there (.there (.there .here))))) | exact .there (.there (.there (.there (.there (.there (.there .here))))))); rfl)
                | ((with_reducible apply wpL_loadC (t := 34) kA34 HH.out); rfl; (first | exact .here | exact .there .here | exact .there (.there .here) | exact .there (.there (.there .here)) | exact .there (.there (.there (.there .here))) | exact .there (.there (.there (.there (.there .here)))) | exact .there (.there (.there (.there (.there (.there .here))))) | exact .there (.there (.there (.there (.there (.there (.there .here))))))); (first | rfl | exact Arr.len _ | (simp; done)); rfl)
                | ((with_reducible apply wpL_load1 (t := 46) kO46 HH.out); rfl; (first | exact .here | exact .there .here | exact .there (.there .here) | exact .there (.there (.there .here)) | exact .there (.there (.there (.there .here))) | exact .there (.there (.there (.there (.there .here)))) | exact .there (.there (.there (.there (.there (.there .here))))) | exact .there (.there (.there (.there (.there (.there (.there .here))))))); rfl; rfl)
                | ((with_reducible apply wpL_len (t := 46) Try.underlying46); rfl; rfl)
                | ((with_reducible apply wpL_len (t := 125) Try.underlying125); rfl; rfl)
                | ((with_reducible apply wpL_move); rfl; rfl)
                | ((with_reducible apply wpL_assign); rfl; rfl)
                | ((with_reducible apply wpL_pick); rfl; rfl; rfl)
                | ((with_reducible apply wpL_not); rfl; rfl)
                | ((with_reducible apply wpL_cmp (b := true)); rfl; rfl; rfl; (first | rfl | assumption | (simp only [cmpB, decide_eq_true_eq, decide_eq_false_iff_not, beq_iff_eq, bne_iff_ne, ne_eq, beq_eq_false_iff_ne, bne_eq_false_iff_eq, gt_iff_lt, ge_iff_le]; omega) | (simp; omega)); rfl)
                | ((with_reducible apply wpL_cmp (b := false)); rfl; rfl; rfl; (first | rfl | assumption | (simp only [cmpB, decide_eq_true_eq, decide_eq_false_iff_not, beq_iff_eq, bne_iff_ne, ne_eq, beq_eq_false_iff_ne, bne_eq_false_iff_eq, gt_iff_lt, ge_iff_le]; omega) | (simp; omega)); rfl)
                | ((with_reducible apply wpL_cmp); rfl; rfl; rfl; rfl; rfl)
                | ((with_reducible apply wpL_arith); rfl; rfl; rfl; (exact IntWalk.i64_in _ (by (try simp only [arithI]); omega)); rfl)); (try simp only [arithI, Act.put, Act.eval, List.setIfInBounds_toArray, List.set_cons_succ, List.set_cons_zero, Array.getD_eq_getD_getElem?, List.getElem?_toArray, List.getElem?_cons_succ, List.getElem?_cons_zero, Option.getD_some])))
          go_roundw
          case rel => exact ⟨j + 1, r2, _, _, by rw [HUL.out]; omega, by go_num, HST.out, rfl, HH.out⟩
          case measure => simp [intOf]; omega
        · obtain rfl : j = q := by omega
          have hre : r = levAt l (k + 1) := by rw [HRJ.out, ← HUL.out, List.take_length, levAt, HB.out]
          have HNX := hid (HLV.out.next ao2 cap2)
          rw [← hre] at HNX
          clear hre
          go_wp2_with (first
            | ((first
                | ((with_reducible apply wpL_skip); rfl; skip)
                | ((with_reducible apply wpL_buildV1 (.slice ao2 r.length cap2) rfl); rfl; (exact HH.out); rfl; (intro g_ w_ hq_; clear HH; have HH := hid hq_; clear hq_))
                | ((with_reducible apply wpL_appendV (v := .slice ao2 r.length cap2) HH.out.third HH.out.sl0 rfl); (exact (by omega)); rfl; rfl; rfl; (intro ao4 cap4 w_ hq_; clear HH; have HH := hid (Holds.dropSnd hq_); clear hq_))
                | ((with_reducible apply wpL_nilCheck); rfl; rfl)
                | ((with_reducible apply wpL_loadArr (t := 34) kA34 HH.out); rfl; (first | exact .here | exact .there .here | exact .there (.there .here) | exact .there (.there (.there .here)) | exact .there (.there (.there (.there .here))) | exact .there (.there (.there (.there (.there .here)))) | exact .there (.there (.there (.there (.there (.there .here))))) | exact .there (.there (.there (.there (.there (.there (.there .here))))))); rfl)
                | ((with_reducible apply wpL_loadC (t := 34) kA34 HH.out); rfl; (first | exact .here | exact .there .here | exact .there (.there .here) | exact .there (.there (.there .here)) | exact .there (.there (.there (.there .here))) | exact .there (.there (.there (.there (.there .here)))) | exact .there (.there (.there (.there (.there (.there .here))))) | exact .there (.there (.there (.there (.there (.there (.there .here))))))); (first | rfl | exact Arr.len _ | (simp; done)); rfl)
                | ((with_reducible apply wpL_load1 (t := 46) kO46 HH.out); rfl; (first | exact .here | exact .there .here | exact .there (.there .here) | exact .there (.there (.there .here)) | exact .there (.there (.there (.there .here))) | exact .there (.there (.there (.there (.there .here)))) | exact .there (.there (.there (.there (.there (.there .here))))) | exact .there (.there (.there (.there (.there (.there (.there .here))))))); rfl; rfl)
                | ((with_reducible apply wpL_len (t := 46) Try.underlying46); rfl; rfl)
                | ((with_reducible apply wpL_len (t := 125) Try.underlying125); rfl; rfl)
                | ((with_reducible apply wpL_move); rfl; rfl)
                | ((with_reducible apply wpL_assign); rfl; rfl)
                | ((with_reducible apply wpL_pick); rfl; rfl; rfl)
                | ((with_reducible apply wpL_not); rfl; rfl)
                | ((with_reducible apply wpL_cmp (b := true)); rfl; rfl; rfl; (first | rfl | assumption | (simp only [cmpB, decide_eq_true_eq, decide_eq_false_iff_not, beq_iff_eq, bne_iff_ne, ne_eq, beq_eq_false_iff_ne, bne_eq_false_iff_eq, gt_iff_lt, ge_iff_le]; omega) | (simp; omega)); rfl)
                | ((with_reducible apply wpL_cmp (b := false)); rfl; rfl; rfl; (first | rfl | assumption | (simp only [cmpB, decide_eq_true_eq, decide_eq_false_iff_not, beq_iff_eq, bne_iff_ne, ne_eq, beq_eq_false_iff_ne, bne_eq_false_iff_eq, gt_iff_lt, ge_iff_le]; omega) | (simp; omega)); rfl)
                | ((with_reducible apply wpL_cmp); rfl; rfl; rfl; rfl; rfl)
                | ((with_reducible apply wpL_arith); rfl; rfl; rfl; (exact IntWalk.i64_in _ (by (try simp only [arithI]); omega)); rfl)); (try simp only [arithI, Act.put, Act.eval, List.setIfInBounds_toArray, List.set_cons_succ, List.set_cons_zero, Array.getD_eq_getD_getElem?, List.getElem?_toArray, List.getElem?_cons_succ, List.getElem?_cons_zero, Option.getD_some])))
          go_roundw
          case rel => exact ⟨k + 1, _, _, _, _, hkh, by go_num, rfl, HNX.out, HH.out⟩
          case measure => simp [intOf]; omega
    · obtain rfl : k = h := by omega
      have hn0 : n = 1 := by rw [HLN.out, Nat.sub_self]
      go_wp2_with (first
        | ((first
            | ((with_reducible apply wpL_skip); rfl; skip)
            | ((with_reducible apply wpL_idxB (j := k) kE125); rfl; rfl; (exact (by omega)); (exact (by omega)); rfl)
            | ((with_reducible apply wpL_loadAt (t := 46) (v := .slice (some ad) n capb) kO46); (have hc_ := HH.out.sl0.cell k (.slice (some ad) n capb) HVK.out; exact hc_); rfl; rfl)
            | ((with_reducible apply wpL_nilCheck); rfl; rfl)
            | ((with_reducible apply wpL_loadArr (t := 34) kA34 HH.out); rfl; (first | exact .here | exact .there .here | exact .there (.there .here) | exact .there (.there (.there .here)) | exact .there (.there (.there (.there .here))) | exact .there (.there (.there (.there (.there .here)))) | exact .there (.there (.there (.there (.there (.there .here))))) | exact .there (.there (.there (.there (.there (.there (.there .here))))))); rfl)
            | ((with_reducible apply wpL_loadC (t := 34) kA34 HH.out); rfl; (first | exact .here | exact .there .here | exact .there (.there .here) | exact .there (.there (.there .here)) | exact .there (.there (.there (.there .here))) | exact .there (.there (.there (.there (.there .here)))) | exact .there (.there (.there (.there (.there (.there .here))))) | exact .there (.there (.there (.there (.there (.there (.there .here))))))); (first | rfl | exact Arr.len _ | (simp; done)); rfl)
            | ((with_reducible apply wpL_load1 (t := 46) kO46 HH.out); rfl; (first | exact .here | exact .there .here | exact .there (.there .here) | exact .there (.there (.there .here)) | exact .there (.there (.there (.there .here))) | exact .there (.there (.there (.there (.there .here)))) | exact .there (.there (.there (.there (.there (.there .here))))) | exact .there (.there (.there (.there (.there (.there (.there .here))))))); rfl; rfl)
            | ((with_reducible apply wpL_len (t := 46) Try.underlying46); rfl; rfl)
            | ((with_reducible apply wpL_len (t := 125) Try.underlying125); rfl; rfl)
            | ((with_reducible apply wpL_move); rfl; rfl)
            | ((with_reducible apply wpL_assign); rfl; rfl)
            | ((with_reducible apply wpL_pick); rfl; rfl; rfl)
            | ((with_reducible apply wpL_not); rfl; rfl)
            | ((with_reducible apply wpL_cmp (b := true)); rfl; rfl; rfl; (first | rfl | assumption | (simp only [cmpB, decide_eq_true_eq, decide_eq_false_iff_not, beq_iff_eq, bne_iff_ne, ne_eq, beq_eq_false_iff_ne, bne_eq_false_iff_eq, gt_iff_lt, ge_iff_le]; omega) | (simp; omega)); rfl)
            | ((with_reducible apply wpL_cmp (b := false)); rfl; rfl; rfl; (first | rfl | assumption | (simp only [cmpB, decide_eq_true_eq, decide_eq_false_iff_not, beq_iff_eq, bne_iff_ne, ne_eq, beq_eq_false_iff_ne, bne_eq_false_iff_eq, gt_iff_lt, ge_iff_le]; omega) | (simp; omega)); rfl)
            | ((with_reducible apply wpL_cmp); rfl; rfl; rfl; rfl; rfl)
            | ((with_reducible apply wpL_arith); rfl; rfl; rfl; (exact IntWalk.i64_in _ (by (try simp only [arithI]); omega)); rfl)); (try simp only [arithI, Act.put, Act.eval, List.setIfInBounds_toArray, List.set_cons_succ, List.set_cons_zero, Array.getD_eq_getD_getElem?, List.getElem?_toArray, List.getElem?_cons_succ, List.getElem?_cons_zero, Option.getD_some])))
      go_ret
      exact RetLv.of HLV.out HH.out
end Go.Proofs.Ytgkfopodhikckaa

/- Rules on ints: exclusive or, shifts. No condition. -/
namespace Go.Proofs.Ytgkfopodhikckaa
open Go.RowKit
section
variable {P : Program} {ops : Array Oper} {rest : List Oper} {a : Act} {ρ : Operand → Value} {dst : Option Tmp} {ty : TypeId} {pos : String} {after : Array Edge} {guard : Option (Nat × Bool)} {C : World → Prop} {K : Act → Prop} {w : World} {Q : Exit → Act → World → Prop}
theorem bits_xor (k : IntKind) (x y : Nat) (hx : x < 2 ^ k.bits) (hy : y < 2 ^ k.bits) : (BitVec.ofInt k.bits (x : Int) ^^^ BitVec.ofInt k.bits (y : Int)).toNat = x ^^^ y := by
  rw [BitVec.toNat_xor, BitVec.ofInt_natCast, BitVec.ofInt_natCast, BitVec.toNat_ofNat, BitVec.toNat_ofNat, Nat.mod_eq_of_lt hx, Nat.mod_eq_of_lt hy]
theorem ex_xor {t yt : TypeId} {x y : Operand} {k : IntKind} {p q : Int} {m n : Nat} {r : Nat} (hx : ρ x = .int k p) (hy : ρ y = .int k q) (hp : p = (m : Int)) (hq : q = (n : Int)) (hm : m < 2 ^ k.bits) (hn : n < 2 ^ k.bits) (hr : m ^^^ n = r) (hw : k.wrap (r : Int) = (r : Int)) (w : World) :
    (execOp ρ { dst := dst, op := .binOp .xor t x y yt, type := ty, pos := pos, after := after, guard := guard }).run P w = .ok (.value (.int k (r : Int))) w := by
  subst hp hq hr
  have he : ∀ u v, eqGuard .xor t x y u v = pure () := fun _ _ => rfl
  have hr : (binOp .xor t (.int k (m : Int)) (.int k (n : Int))).run P w = .ok (.int k ((m ^^^ n : Nat) : Int)) w := by
    have e : binOp .xor t (.int k (m : Int)) (.int k (n : Int)) = Op.intBits .xor k (m : Int) (n : Int) := by cases k <;> rfl
    rw [e]
    simp only [Op.intBits, Sem.run_pure]
    rw [bits_xor k m n hm hn, hw]
  simp only [execOp, hx, hy, Sem.run_bind, he, Sem.run_pure, Result.andThen_ok, hr]
theorem wpL_xor {t yt : TypeId} {x y : Operand} {k : IntKind} {p q : Int} {m n : Nat} {r : Nat} (hx : a.eval x = .int k p) (hy : a.eval y = .int k q) (hp : p = (m : Int)) (hq : q = (n : Int)) (hm : m < 2 ^ k.bits) (hn : n < 2 ^ k.bits) (hr : m ^^^ n = r) (hw : k.wrap (r : Int) = (r : Int))
    (hg : Region.wanted { dst := dst, op := .binOp .xor t x y yt, type := ty, pos := pos, after := after, guard := guard } (yielded ops a.tmps) = true)
    (h : wpList P ops Q rest (a.put dst (.int k (r : Int))) w) : wpList P ops Q ({ dst := dst, op := .binOp .xor t x y yt, type := ty, pos := pos, after := after, guard := guard } :: rest) a w :=
  wpList_ex hg (ex_xor (ρ := a.eval) hx hy hp hq hm hn hr hw w) h
theorem ex_shrI {t yt : TypeId} {x y : Operand} {kk : IntKind} {p q : Int} {m k r : Nat} (hx : ρ x = .int .i64 p) (hy : ρ y = .int kk q) (hp : p = (m : Int)) (hq : q = (k : Int)) (hk : k < 64) (hr : m / 2 ^ k = r) (w : World) :
    (execOp ρ { dst := dst, op := .binOp .shr t x y yt, type := ty, pos := pos, after := after, guard := guard }).run P w = .ok (.value (.int .i64 (r : Int))) w := by
  subst hp hq hr
  have he : ∀ u v, eqGuard .shr t x y u v = pure () := fun _ _ => rfl
  have hr : (binOp .shr t (.int .i64 (m : Int)) (.int kk (k : Int))).run P w = .ok (.int .i64 ((m / 2 ^ k : Nat) : Int)) w := by
    show (Op.shift .shr .i64 (m : Int) kk (k : Int)).run P w = _
    have h0 : ¬ (k : Int) < 0 := by omega
    have h1 : min (k : Int).toNat IntKind.i64.bits = k := by
      have : IntKind.i64.bits = 64 := rfl
      omega
    simp only [Op.shift, h0, if_false, h1, Sem.run_pure]
    congr 2
    rw [Int.fdiv_eq_ediv_of_nonneg _ (by exact_mod_cast Nat.zero_le _)]
    norm_cast
  simp only [execOp, hx, hy, Sem.run_bind, he, Sem.run_pure, Result.andThen_ok, hr]
theorem wpL_shrI {t yt : TypeId} {x y : Operand} {kk : IntKind} {p q : Int} {m k r : Nat} (hx : a.eval x = .int .i64 p) (hy : a.eval y = .int kk q) (hp : p = (m : Int)) (hq : q = (k : Int)) (hk : k < 64) (hr : m / 2 ^ k = r)
    (hg : Region.wanted { dst := dst, op := .binOp .shr t x y yt, type := ty, pos := pos, after := after, guard := guard } (yielded ops a.tmps) = true)
    (h : wpList P ops Q rest (a.put dst (.int .i64 (r : Int))) w) : wpList P ops Q ({ dst := dst, op := .binOp .shr t x y yt, type := ty, pos := pos, after := after, guard := guard } :: rest) a w :=
  wpList_ex hg (ex_shrI (ρ := a.eval) hx hy hp hq hk hr w) h
/-- The sum 1 << k. -/
theorem ex_shlP {t yt : TypeId} {x y : Operand} {kk : IntKind} {p q : Int} {m k r : Nat} (hx : ρ x = .int .i64 p) (hy : ρ y = .int kk q) (hp : p = (m : Int)) (hq : q = (k : Int)) (hk : k < 64) (hr : m * 2 ^ k = r) (hw : IntKind.i64.wrap (r : Int) = (r : Int)) (w : World) :
    (execOp ρ { dst := dst, op := .binOp .shl t x y yt, type := ty, pos := pos, after := after, guard := guard }).run P w = .ok (.value (.int .i64 (r : Int))) w := by
  subst hp hq hr
  have he : ∀ u v, eqGuard .shl t x y u v = pure () := fun _ _ => rfl
  have hr : (binOp .shl t (.int .i64 (m : Int)) (.int kk (k : Int))).run P w = .ok (.int .i64 ((m * 2 ^ k : Nat) : Int)) w := by
    show (Op.shift .shl .i64 (m : Int) kk (k : Int)).run P w = _
    have h0 : ¬ (k : Int) < 0 := by omega
    have h1 : min (k : Int).toNat IntKind.i64.bits = k := by
      have : IntKind.i64.bits = 64 := rfl
      omega
    simp only [Op.shift, h0, if_false, h1, Sem.run_pure]
    rw [show ((m : Int) * 2 ^ k) = ((m * 2 ^ k : Nat) : Int) by push_cast; rfl, hw]
  simp only [execOp, hx, hy, Sem.run_bind, he, Sem.run_pure, Result.andThen_ok, hr]
theorem wpL_shlP {t yt : TypeId} {x y : Operand} {kk : IntKind} {p q : Int} {m k r : Nat} (hx : a.eval x = .int .i64 p) (hy : a.eval y = .int kk q) (hp : p = (m : Int)) (hq : q = (k : Int)) (hk : k < 64) (hr : m * 2 ^ k = r) (hw : IntKind.i64.wrap (r : Int) = (r : Int))
    (hg : Region.wanted { dst := dst, op := .binOp .shl t x y yt, type := ty, pos := pos, after := after, guard := guard } (yielded ops a.tmps) = true)
    (h : wpList P ops Q rest (a.put dst (.int .i64 (r : Int))) w) : wpList P ops Q ({ dst := dst, op := .binOp .shl t x y yt, type := ty, pos := pos, after := after, guard := guard } :: rest) a w :=
  wpList_ex hg (ex_shlP (ρ := a.eval) hx hy hp hq hk hr hw w) h
end
end Go.Proofs.Ytgkfopodhikckaa

/- Root, path, Path of merkle. Condition: at most 10^9 leaves. -/
namespace Go.Proofs.Ytgkfopodhikckaa
open Go.RowKit
attribute [local irreducible] wpQuiet wpList
/-- The levels as they lie. -/
def LvsAt (w : World) (v : Value) (l : List Nd) (h : Nat) : Prop :=
  ∃ ao cap cs, v = .slice (some ao) (h + 1) cap ∧ Sl w (.slice (some ao) (h + 1) cap) 1 (h + 1) cs ∧ ∀ i, i ≤ h → ∃ a c, cs[i]? = some (.slice (some a) (levAt l i).length c) ∧ Arrs w (.slice (some a) (levAt l i).length c) (levAt l i)
theorem RetLv.get {w w' : World} {l : List Nd} {h : Nat} {e : Ending} (hl : l.length = 2 ^ h) (H : RetLv w (levelsL l h) e w') : ∃ v, e = .returned v ∧ Below w.heap.size w w' ∧ LvsAt w' v l h := by
  obtain ⟨ao, cap, rfl, hb, cs, hs, hcs⟩ := H
  have hn : (levelsL l h).length = h + 1 := by simp [levelsL]
  rw [hn] at hs hcs ⊢
  obtain ⟨a0, c0, e0⟩ := hs.some (by omega)
  simp only [Value.slice.injEq] at e0
  obtain ⟨rfl, -, -⟩ := e0
  refine ⟨_, rfl, hb, a0, cap, cs, rfl, hs, fun i hi => ?_⟩
  obtain ⟨a, c, h1, h2⟩ := hcs i (by omega)
  have e : (levelsL l h).getD i [] = levAt l i := by simp [levelsL, List.getD, show i < h + 1 by omega]
  rw [e] at h1 h2
  have hp : 0 < (levAt l i).length := by rw [levAt_len hl i hi]; exact Nat.two_pow_pos _
  obtain ⟨a1, c1, e1⟩ := h2.some (by omega)
  simp only [Value.slice.injEq] at e1
  obtain ⟨rfl, -, -⟩ := e1
  exact ⟨a1, c, h1, h2⟩
theorem LvsAt.below {w w' : World} {v : Value} {l : List Nd} {h : Nat} (H : LvsAt w v l h) (hb : Below w.heap.size w w') : LvsAt w' v l h := by
  obtain ⟨ao, cap, cs, rfl, hs, hcs⟩ := H
  refine ⟨ao, cap, cs, rfl, hs.below hb, fun i hi => ?_⟩
  obtain ⟨a, c, h1, h2⟩ := hcs i hi
  exact ⟨a, c, h1, h2.below hb⟩
theorem LvsAt.holds {w0 w : World} {v : Value} {l : List Nd} {h : Nat} {bs : List (Nat × Obj)} {rows : List Row} (H : LvsAt w0 v l h) (hH : Holds w0 [] bs rows w) : LvsAt w v l h := by
  obtain ⟨ao, cap, cs, rfl, hs, hcs⟩ := H
  refine ⟨ao, cap, cs, rfl, hH.sl hs, fun i hi => ?_⟩
  obtain ⟨a, c, h1, h2⟩ := hcs i hi
  exact ⟨a, c, h1, hH.sl h2⟩
theorem get_as {n : Nat} {w : World} {a : Addr} {cap k : Nat} {l : List (Arr n)} {x : Arr n} (h : Arrs w (.slice (some a) l.length cap) l) (hk : k < l.length) (hx : l[k] = x) : ∀ j u, x.cells[j]? = some u → w.cell? ((a.add (k * n)).add j) = some u := by
  subst hx; exact Arrs.get h k hk
def rootN (l : List Nd) : Nd := (levAt l (Nat.log2 l.length)).getD 0 Nd0
def rootV (l : List Nd) : Nd := if checkC l.length = 0 then rootN l else Nd0
def RetR (w : World) (x : Nd) (c : Int) (e : Ending) (w' : World) : Prop := e = .returned (.tuple #[x.val, .int .i64 c]) ∧ Below w.heap.size w w'
theorem RetR.mk {w w' : World} {x y : Nd} {b c : Int} (hx : x = y) (h : b = c) (hb : Below w.heap.size w w') : RetR w y c (.returned (.tuple #[x.val, .int .i64 b])) w' := ⟨by rw [h, hx], hb⟩
theorem BZ34 (w : World) : (Instr.build 34 #[]).run Try.prog w = .ok Nd0.val w := by kernel_rfl
set_option maxRecDepth 100000 in
set_option maxHeartbeats 4000000 in
theorem root_any (w : World) (v : Value) (l : List Nd) (hl : Arrs w v l) (hn : l.length ≤ 1000000000) : Calls Try.prog 38 #[v] w (RetR w (rootV l) (checkC l.length)) := by
  obtain ⟨ao, cap, rfl, _⟩ := hl.shape
  have HL := hid hl
  have HN := hid hn
  clear hl
  have HH := hid (Holds.init w)
  obtain ⟨c, hc⟩ : ∃ c, checkC l.length = c := ⟨_, rfl⟩
  have HC := hid hc
  by_cases h0 : c = 0
  · obtain ⟨h, hh, hlh⟩ := check_pow (hc.trans h0)
    subst h0
    have hlog : Nat.log2 l.length = h := by rw [hlh, Nat.log2_two_pow]
    have h1 : (levAt l h).length = 1 := by rw [levAt_len hlh h (Nat.le_refl _), Nat.sub_self]
    obtain ⟨x, hx⟩ : ∃ x, (levAt l h).getD 0 Nd0 = x := ⟨_, rfl⟩
    have HX := hid (show ∀ pf : 0 < (levAt l h).length, (levAt l h)[0]'pf = x from fun pf => by rw [← hx]; simp [pf])
    have hr : rootV l = x := by unfold rootV rootN; rw [if_pos hc, hlog, hx]
    rw [hr, hc]
    have HLH := hid hlh
    have H1 := hid h1
    clear hr hlog hlh hc hx h1
    go_enter Try.func38, Try.ntmps38
    go_wp2_with (first
      | ((first
          | ((with_reducible apply wpL_skip); rfl; skip)
          | (go_at_call 67; (with_reducible refine (check_any _ _ l (HH.out.sl HL.out) hn).mono ?_); rw [HC.out]; rintro e_ w2_ ⟨rfl, hb_⟩; (have hq_ := HH.out.grow hb_); clear HH; have HH := hid hq_; clear hq_ hb_)
          | (go_at_call 68; (with_reducible refine (levels_any _ _ l h (HH.out.sl HL.out) hh HLH.out).mono ?_); intro e_ w2_ hq0_; obtain ⟨lv_, rfl, hb_, al, cl, cs, rfl, hs_, hcs_⟩ := hq0_.get HLH.out; obtain ⟨a0, c0, hi_, ha_⟩ := hcs_ h (Nat.le_refl _); clear hq0_ hcs_; rw [H1.out] at hi_; (have hq_ := HH.out.grow hb_); clear HH; have HH := hid hq_; have HCI := hid (hs_.cell h _ hi_); have HAR := hid (get_as ha_ (by rw [H1.out]; decide) (HX.out _)); clear hq_ hb_ hs_ hi_ ha_)
          | ((with_reducible apply wpL_idxB (j := h) kE125); rfl; rfl; (exact (by omega)); (exact (by omega)); rfl)
          | ((with_reducible apply wpL_loadAt (t := 46) (v := .slice (some a0) 1 c0) kO46 HCI.out); rfl; rfl)
          | ((with_reducible apply wpL_idx (j := 0) kE46); rfl; rfl; rfl; (exact (by decide)); rfl)
          | ((with_reducible apply wpL_loadEl (dst := some 21) (v := x) kA34 HAR.out); rfl; rfl)
          | ((with_reducible apply wpL_storeC (t := 34) (vs := x.cells)); rfl; rfl; (exact kS34); (exact HH.out); (exact .here); (exact Arr.len _); (exact cells_one _); (exact Arr.len _); rfl; (intro w_ hq_; clear HH; have HH := hid hq_; clear hq_))
          | ((with_reducible apply wpL_nilCheck); rfl; rfl)
          | ((with_reducible apply wpL_loadArr (t := 34) kA34 HH.out); rfl; (first | exact .here | exact .there .here | exact .there (.there .here) | exact .there (.there (.there .here)) | exact .there (.there (.there (.there .here))) | exact .there (.there (.there (.there (.there .here)))) | exact .there (.there (.there (.there (.there (.there .here))))) | exact .there (.there (.there (.there (.there (.there (.there .here))))))); rfl)
          | ((with_reducible apply wpL_loadC (t := 34) kA34 HH.out); rfl; (first | exact .here | exact .there .here | exact .there (.there .here) | exact .there (.there (.there .here)) | exact .there (.there (.there (.there .here))) | exact .there (.there (.there (.there (.there .here)))) | exact .there (.there (.there (.there (.there (.there .here))))) | exact .there (.there (.there (.there (.there (.there (.there .here))))))); (first | rfl | exact Arr.len _ | (simp; done)); rfl)
          | ((with_reducible apply wpL_load1 (t := 46) kO46 HH.out); rfl; (first | exact .here | exact .there .here | exact .there (.there .here) | exact .there (.there (.there .here)) | exact .there (.there (.there (.there .here))) | exact .there (.there (.there (.there (.there .here)))) | exact .there (.there (.there (.there (.there (.there .here))))) | exact .there (.there (.there (.there (.there (.there (.there .here))))))); rfl; rfl)
          | ((with_reducible apply wpL_len (t := 125) Try.underlying125); rfl; rfl)
          | ((with_reducible apply wpL_allocC (dst := some 2) kZ34 HH.out); rfl; (intro g2_ w_ hq_; (try simp only [List.set_cons_zero, List.set_cons_succ] at hq_); clear HH; have HH := hid hq_; clear hq_))
          | ((with_reducible apply wpL_storeArr (t := 34) kS34 HH.out); rfl; rfl; (first | exact .here | exact .there .here | exact .there (.there .here) | exact .there (.there (.there .here)) | exact .there (.there (.there (.there .here))) | exact .there (.there (.there (.there (.there .here)))) | exact .there (.there (.there (.there (.there (.there .here))))) | exact .there (.there (.there (.there (.there (.there (.there .here))))))); (first | rfl | exact Arr.len _ | (simp; done)); rfl; (intro w_ hq_; (try simp only [List.set_cons_zero, List.set_cons_succ] at hq_); clear HH; have HH := hid hq_; clear hq_))
          | ((with_reducible apply wpL_storeC (t := 34)); rfl; rfl; (exact kS34); (exact HH.out); (first | exact .here | exact .there .here | exact .there (.there .here) | exact .there (.there (.there .here)) | exact .there (.there (.there (.there .here))) | exact .there (.there (.there (.there (.there .here)))) | exact .there (.there (.there (.there (.there (.there .here))))) | exact .there (.there (.there (.there (.there (.there (.there .here))))))); (first | rfl | exact Arr.len _ | (simp; done)); (first | rfl | (intro u_ hu_; simp only [List.mem_cons, List.not_mem_nil, or_false] at hu_; rcases hu_ with rfl | hu_; rfl) | exact byt_cell1 _ | exact cells_one _ | exact wrd_one _ | exact flat_cell1 _); (first | rfl | exact Arr.len _ | (simp; done)); rfl; (intro w_ hq_; (try simp only [List.set_cons_zero, List.set_cons_succ] at hq_); clear HH; have HH := hid hq_; clear hq_))
          | ((with_reducible apply wpL_move); rfl; rfl)
          | ((with_reducible apply wpL_assign); rfl; rfl)
          | ((with_reducible apply wpL_pick); rfl; rfl; rfl)
          | ((with_reducible apply wpL_not); rfl; rfl)
          | ((with_reducible apply wpL_cmp (b := true)); rfl; rfl; rfl; (first | rfl | assumption | (simp only [cmpB, decide_eq_true_eq, decide_eq_false_iff_not, beq_iff_eq, bne_iff_ne, ne_eq, beq_eq_false_iff_ne, bne_eq_false_iff_eq, gt_iff_lt, ge_iff_le]; omega) | (simp; omega)); rfl)
          | ((with_reducible apply wpL_cmp (b := false)); rfl; rfl; rfl; (first | rfl | assumption | (simp only [cmpB, decide_eq_true_eq, decide_eq_false_iff_not, beq_iff_eq, bne_iff_ne, ne_eq, beq_eq_false_iff_ne, bne_eq_false_iff_eq, gt_iff_lt, ge_iff_le]; omega) | (simp; omega)); rfl)
          | ((with_reducible apply wpL_cmp); rfl; rfl; rfl; rfl; rfl)
          | ((with_reducible apply wpL_arith); rfl; rfl; rfl; (exact IntWalk.i64_in _ (by (try simp only [arithI]); omega)); rfl)); (try simp only [arithI, Act.put, Act.eval, List.setIfInBounds_toArray, List.set_cons_succ, List.set_cons_zero, Array.getD_eq_getD_getElem?, List.getElem?_toArray, List.getElem?_cons_succ, List.getElem?_cons_zero, Option.getD_some])))
    refine bodyPost_ret (res2 rfl (resC kA34 HH.out (by rfl) .here (Arr.len _)) (by rfl)) rfl ?_
    exact RetR.mk rfl rfl HH.out.below
  · have hr : rootV l = Nd0 := by unfold rootV; rw [if_neg (by rw [hc]; exact h0)]
    rw [hr, hc]
    have hcb : (c != 0) = true := by simpa using h0
    clear hr hc h0
    go_enter Try.func38, Try.ntmps38
    go_wp2_with (first
      | ((first
          | ((with_reducible apply wpL_skip); rfl; skip)
          | (go_at_call 67; (with_reducible refine (check_any _ _ l (HH.out.sl HL.out) hn).mono ?_); rw [HC.out]; rintro e_ w2_ ⟨rfl, hb_⟩; (have hq_ := HH.out.grow hb_); clear HH; have HH := hid hq_; clear hq_ hb_)
          | ((with_reducible apply wpList_build (parts := #[]) (v := Nd0.val)); (exact BZ34); rfl)
          | ((with_reducible apply wpL_storeC (t := 34) (vs := Nd0.cells)); rfl; rfl; (exact kS34); (exact HH.out); (exact .here); (exact Arr.len _); (exact cells_one _); (exact Arr.len _); rfl; (intro w_ hq_; clear HH; have HH := hid hq_; clear hq_))
          | ((with_reducible apply wpL_nilCheck); rfl; rfl)
          | ((with_reducible apply wpL_loadArr (t := 34) kA34 HH.out); rfl; (first | exact .here | exact .there .here | exact .there (.there .here) | exact .there (.there (.there .here)) | exact .there (.there (.there (.there .here))) | exact .there (.there (.there (.there (.there .here)))) | exact .there (.there (.there (.there (.there (.there .here))))) | exact .there (.there (.there (.there (.there (.there (.there .here))))))); rfl)
          | ((with_reducible apply wpL_loadC (t := 34) kA34 HH.out); rfl; (first | exact .here | exact .there .here | exact .there (.there .here) | exact .there (.there (.there .here)) | exact .there (.there (.there (.there .here))) | exact .there (.there (.there (.there (.there .here)))) | exact .there (.there (.there (.there (.there (.there .here))))) | exact .there (.there (.there (.there (.there (.there (.there .here))))))); (first | rfl | exact Arr.len _ | (simp; done)); rfl)
          | ((with_reducible apply wpL_load1 (t := 46) kO46 HH.out); rfl; (first | exact .here | exact .there .here | exact .there (.there .here) | exact .there (.there (.there .here)) | exact .there (.there (.there (.there .here))) | exact .there (.there (.there (.there (.there .here)))) | exact .there (.there (.there (.there (.there (.there .here))))) | exact .there (.there (.there (.there (.there (.there (.there .here))))))); rfl; rfl)
          | ((with_reducible apply wpL_len (t := 125) Try.underlying125); rfl; rfl)
          | ((with_reducible apply wpL_allocC (dst := some 2) kZ34 HH.out); rfl; (intro g2_ w_ hq_; (try simp only [List.set_cons_zero, List.set_cons_succ] at hq_); clear HH; have HH := hid hq_; clear hq_))
          | ((with_reducible apply wpL_storeArr (t := 34) kS34 HH.out); rfl; rfl; (first | exact .here | exact .there .here | exact .there (.there .here) | exact .there (.there (.there .here)) | exact .there (.there (.there (.there .here))) | exact .there (.there (.there (.there (.there .here)))) | exact .there (.there (.there (.there (.there (.there .here))))) | exact .there (.there (.there (.there (.there (.there (.there .here))))))); (first | rfl | exact Arr.len _ | (simp; done)); rfl; (intro w_ hq_; (try simp only [List.set_cons_zero, List.set_cons_succ] at hq_); clear HH; have HH := hid hq_; clear hq_))
          | ((with_reducible apply wpL_storeC (t := 34)); rfl; rfl; (exact kS34); (exact HH.out); (first | exact .here | exact .there .here | exact .there (.there .here) | exact .there (.there (.there .here)) | exact .there (.there (.there (.there .here))) | exact .there (.there (.there (.there (.there .here)))) | exact .there (.there (.there (.there (.there (.there .here))))) | exact .there (.there (.there (.there (.there (.there (.there .here))))))); (first | rfl | exact Arr.len _ | (simp; done)); (first | rfl | (intro u_ hu_; simp only [List.mem_cons, List.not_mem_nil, or_false] at hu_; rcases hu_ with rfl | hu_; rfl) | exact byt_cell1 _ | exact cells_one _ | exact wrd_one _ | exact flat_cell1 _); (first | rfl | exact Arr.len _ | (simp; done)); rfl; (intro w_ hq_; (try simp only [List.set_cons_zero, List.set_cons_succ] at hq_); clear HH; have HH := hid hq_; clear hq_))
          | ((with_reducible apply wpL_move); rfl; rfl)
          | ((with_reducible apply wpL_assign); rfl; rfl)
          | ((with_reducible apply wpL_pick); rfl; rfl; rfl)
          | ((with_reducible apply wpL_not); rfl; rfl)
          | ((with_reducible apply wpL_cmp (b := true)); rfl; rfl; rfl; (first | rfl | assumption | (simp only [cmpB, decide_eq_true_eq, decide_eq_false_iff_not, beq_iff_eq, bne_iff_ne, ne_eq, beq_eq_false_iff_ne, bne_eq_false_iff_eq, gt_iff_lt, ge_iff_le]; omega) | (simp; omega)); rfl)
          | ((with_reducible apply wpL_cmp (b := false)); rfl; rfl; rfl; (first | rfl | assumption | (simp only [cmpB, decide_eq_true_eq, decide_eq_false_iff_not, beq_iff_eq, bne_iff_ne, ne_eq, beq_eq_false_iff_ne, bne_eq_false_iff_eq, gt_iff_lt, ge_iff_le]; omega) | (simp; omega)); rfl)
          | ((with_reducible apply wpL_cmp); rfl; rfl; rfl; rfl; rfl)
          | ((with_reducible apply wpL_arith); rfl; rfl; rfl; (exact IntWalk.i64_in _ (by (try simp only [arithI]); omega)); rfl)); (try simp only [arithI, Act.put, Act.eval, List.setIfInBounds_toArray, List.set_cons_succ, List.set_cons_zero, Array.getD_eq_getD_getElem?, List.getElem?_toArray, List.getElem?_cons_succ, List.getElem?_cons_zero, Option.getD_some])))
    refine bodyPost_ret (res2 rfl (resC kA34 HH.out (by rfl) .here (Arr.len _)) (by rfl)) rfl ?_
    exact RetR.mk rfl rfl HH.out.below
end Go.Proofs.Ytgkfopodhikckaa

/- path, Path of merkle. Condition: at most 10^9 leaves. -/
namespace Go.Proofs.Ytgkfopodhikckaa
open Go.RowKit
attribute [local irreducible] wpQuiet wpList
/-- The siblings on the way. -/
def pathL (l : List Nd) (h i : Nat) : List Nd := (List.range h).map fun k => (levAt l k).getD ((i / 2 ^ k) ^^^ 1) Nd0
theorem pathL_len (l : List Nd) (h i : Nat) : (pathL l h i).length = h := by simp [pathL]
theorem pathL_succ (l : List Nd) (k i : Nat) : pathL l (k + 1) i = pathL l k i ++ [(levAt l k).getD ((i / 2 ^ k) ^^^ 1) Nd0] := by simp [pathL, List.range_succ]
def PathRel (w : World) (l : List Nd) (h i : Nat) (iv v kv : Value) (wr : World) : Prop :=
  ∃ (k m : Nat) (r : List Nd) (ao : Option Addr) (cap : Nat), k ≤ h ∧ iv = .int .i64 (m : Int) ∧ m = i / 2 ^ k ∧ kv = .int .i64 k ∧ r = pathL l k i ∧ v = .slice ao r.length cap ∧ Holds w [] [] [rowA 34 ao cap r] wr
set_option maxRecDepth 100000 in
set_option maxHeartbeats 4000000 in
theorem path_any (w : World) (v : Value) (l : List Nd) (h i : Nat) (hl : LvsAt w v l h) (hlh : l.length = 2 ^ h) (hh : h ≤ 10) (hi : i < 2 ^ h) : Calls Try.prog 76 #[v, .int .i64 i] w (RetAs 34 w (pathL l h i)) := by
  obtain ⟨al, cl, cs, rfl, hs, hcs⟩ := hl
  have HS := hid hs
  have HCS := hid hcs
  have HLH := hid hlh
  have hi10 : i ≤ 1024 := by
    have : 2 ^ h ≤ 2 ^ 10 := Nat.pow_le_pow_right (by decide) hh
    omega
  have HI := hid hi
  have hc1 : h + 1 ≤ cl := by obtain ⟨_, _, e, hle⟩ := hs.shape; cases e; exact hle
  clear hs hcs hlh hi
  have HH := hid (Holds.init w)
  go_enter Try.func76, Try.ntmps76
  go_wp2_with (first
    | ((first
        | ((with_reducible apply wpL_skip); rfl; skip)
        | ((with_reducible apply wpL_sliceTo (j := h) kE125); rfl; rfl; (exact (by omega)); (exact (by omega)); rfl)
        | ((with_reducible apply wpL_nilCheck); rfl; rfl)
        | ((with_reducible apply wpL_loadArr (t := 34) kA34 HH.out); rfl; (first | exact .here | exact .there .here | exact .there (.there .here) | exact .there (.there (.there .here)) | exact .there (.there (.there (.there .here))) | exact .there (.there (.there (.there (.there .here)))) | exact .there (.there (.there (.there (.there (.there .here))))) | exact .there (.there (.there (.there (.there (.there (.there .here))))))); rfl)
        | ((with_reducible apply wpL_loadC (t := 34) kA34 HH.out); rfl; (first | exact .here | exact .there .here | exact .there (.there .here) | exact .there (.there (.there .here)) | exact .there (.there (.there (.there .here))) | exact .there (.there (.there (.there (.there .here)))) | exact .there (.there (.there (.there (.there (.there .here))))) | exact .there (.there (.there (.there (.there (.there (.there .here))))))); (first | rfl | exact Arr.len _ | (simp; done)); rfl)
        | ((with_reducible apply wpL_load1 (t := 46) kO46 HH.out); rfl; (first | exact .here | exact .there .here | exact .there (.there .here) | exact .there (.there (.there .here)) | exact .there (.there (.there (.there .here))) | exact .there (.there (.there (.there (.there .here)))) | exact .there (.there (.there (.there (.there (.there .here))))) | exact .there (.there (.there (.there (.there (.there (.there .here))))))); rfl; rfl)
        | ((with_reducible apply wpL_len (t := 46) Try.underlying46); rfl; rfl)
        | ((with_reducible apply wpL_len (t := 125) Try.underlying125); rfl; rfl)
        | ((with_reducible apply wpL_move); rfl; rfl)
        | ((with_reducible apply wpL_assign); rfl; rfl)
        | ((with_reducible apply wpL_pick); rfl; rfl; rfl)
        | ((with_reducible apply wpL_not); rfl; rfl)
        | ((with_reducible apply wpL_cmp (b := true)); rfl; rfl; rfl; (first | rfl | assumption | (simp only [cmpB, decide_eq_true_eq, decide_eq_false_iff_not, beq_iff_eq, bne_iff_ne, ne_eq, beq_eq_false_iff_ne, bne_eq_false_iff_eq, gt_iff_lt, ge_iff_le]; omega) | (simp; omega)); rfl)
        | ((with_reducible apply wpL_cmp (b := false)); rfl; rfl; rfl; (first | rfl | assumption | (simp only [cmpB, decide_eq_true_eq, decide_eq_false_iff_not, beq_iff_eq, bne_iff_ne, ne_eq, beq_eq_false_iff_ne, bne_eq_false_iff_eq, gt_iff_lt, ge_iff_le]; omega) | (simp; omega)); rfl)
        | ((with_reducible apply wpL_cmp); rfl; rfl; rfl; rfl; rfl)
        | ((with_reducible apply wpL_arith); rfl; rfl; rfl; (exact IntWalk.i64_in _ (by (try simp only [arithI]); omega)); rfl)); (try simp only [arithI, Act.put, Act.eval, List.setIfInBounds_toArray, List.set_cons_succ, List.set_cons_zero, Array.getD_eq_getD_getElem?, List.getElem?_toArray, List.getElem?_cons_succ, List.getElem?_cons_zero, Option.getD_some])))
  go_loopw [1, 5, 14] (PathRel w l h i) (fun _ _ k _ => h - (intOf k).toNat)
  case atStart => exact ⟨0, i, [], none, 0, Nat.zero_le _, rfl, by simp, rfl, rfl, rfl, HH.out.addNil 34 16⟩
  case round =>
    obtain ⟨k, m, r, ao, cap, hk, rfl, hm, rfl, hrk, rfl, hr⟩ := hrel
    clear HH
    have HH := hid hr
    have HM := hid hm
    have HRK := hid hrk
    have hrl : r.length = k := by rw [hrk, pathL_len]
    have hm10 : m ≤ 1024 := by rw [hm]; exact Nat.le_trans (Nat.div_le_self _ _) hi10
    clear hr hrk hm
    by_cases hkh : k < h
    · obtain ⟨a, c, hc, ha⟩ := HCS.out k (by omega)
      have hlen := levAt_len HLH.out k (by omega)
      have hmb : m < 2 ^ (h - k) := by
        rw [HM.out, Nat.div_lt_iff_lt_mul (Nat.two_pow_pos _), ← Nat.pow_add, show h - k + k = h by omega]
        exact HI.out
      have h1b : 1 < 2 ^ (h - k) := Nat.one_lt_two_pow (by omega)
      obtain ⟨q, hq⟩ : ∃ q, m ^^^ 1 = q := ⟨_, rfl⟩
      have hqb : q < (levAt l k).length := by rw [hlen, ← hq]; exact Nat.xor_lt_two_pow hmb h1b
      have HQ := hid hq
      obtain ⟨n, hn⟩ : ∃ n, (levAt l k).length = n := ⟨_, rfl⟩
      have hn10 : n ≤ 1024 := by
        rw [← hn, hlen]
        exact Nat.le_trans (Nat.pow_le_pow_right (by decide) (show h - k ≤ 10 by omega)) (by decide)
      obtain ⟨x, hx⟩ : ∃ x, (levAt l k).getD q Nd0 = x := ⟨_, rfl⟩
      have HAR := hid (fun w1 (h1 : Holds w [] [] [rowA 34 ao cap r] w1) => get_as (show Arrs w1 (.slice (some a) (levAt l k).length c) (levAt l k) from h1.sl ha) hqb (show (levAt l k)[q] = x by rw [← hx]; simp [hqb]))
      rw [hn] at hc hqb
      have HC := hid hc
      obtain ⟨r2, hr2⟩ : ∃ r2, r ++ [x] = r2 := ⟨_, rfl⟩
      have HR2 := hid hr2
      have HST := hid (show r2 = pathL l (k + 1) i by rw [← hr2, pathL_succ, ← HRK.out, ← HM.out, hq, hx])
      have HD := hid (show m / 2 ^ 1 = i / 2 ^ (k + 1) by rw [HM.out, Nat.div_div_eq_div_mul, Nat.pow_one, Nat.pow_succ])
      obtain ⟨m2, hm2⟩ : ∃ m2, m / 2 ^ 1 = m2 := ⟨_, rfl⟩
      have HM2 := hid hm2
      rw [hm2] at HD
      have HB1 := hid (show m < 2 ^ IntKind.i64.bits from Nat.lt_of_lt_of_le (show m < 1025 by omega) (by decide))
      have HB2 := hid (show 1 < 2 ^ IntKind.i64.bits from by decide)
      have HW := hid (show IntKind.i64.wrap ((q : Nat) : Int) = (q : Int) from IntWalk.i64_in _ (by omega))
      clear hc ha hlen hmb h1b hq hx hr2 hm2 hn
      go_wp2_with (first
        | ((first
            | ((with_reducible apply wpL_skip); rfl; skip)
            | ((with_reducible apply wpL_idxB (dst := some 16) (j := k) kE125); rfl; rfl; rfl; (exact hkh); rfl)
            | ((with_reducible apply wpL_loadAt (t := 46) (v := .slice (some a) n c) kO46); (have hc_ := (HH.out.sl HS.out).cell k (.slice (some a) n c) HC.out; exact hc_); rfl; rfl)
            | ((with_reducible apply wpL_xor (m := m) (n := 1) (r := q)); rfl; rfl; rfl; rfl; (exact HB1.out); (exact HB2.out); (exact HQ.out); (exact HW.out); rfl)
            | ((with_reducible apply wpL_idx (dst := some 22) (j := q) kE46); rfl; rfl; rfl; (exact hqb); rfl)
            | ((with_reducible apply wpL_loadEl (dst := some 23) (v := x) kA34 (HAR.out _ HH.out)); rfl; rfl)
            | ((with_reducible apply wpL_buildA kE46 x (by decide)); rfl; (exact HH.out); rfl; (intro g_ w_ hq_; clear HH; have HH := hid hq_; clear hq_))
            | ((with_reducible apply wpL_appendA (l := r) (l2 := [x]) (r := r2) kE46 HH.out.swap HH.out.sl0 HR2.out); rfl; rfl; (exact (by simp; omega)); rfl; rfl; rfl; (intro ao4 cap4 w_ hq_; clear HH; have HH := hid hq_.dropSnd; clear hq_))
            | ((with_reducible apply wpL_shrI (m := m) (k := 1) (r := m2)); rfl; rfl; rfl; rfl; (exact (by decide)); (exact HM2.out); rfl)
            | ((with_reducible apply wpL_nilCheck); rfl; rfl)
            | ((with_reducible apply wpL_loadArr (t := 34) kA34 HH.out); rfl; (first | exact .here | exact .there .here | exact .there (.there .here) | exact .there (.there (.there .here)) | exact .there (.there (.there (.there .here))) | exact .there (.there (.there (.there (.there .here)))) | exact .there (.there (.there (.there (.there (.there .here))))) | exact .there (.there (.there (.there (.there (.there (.there .here))))))); rfl)
            | ((with_reducible apply wpL_loadC (t := 34) kA34 HH.out); rfl; (first | exact .here | exact .there .here | exact .there (.there .here) | exact .there (.there (.there .here)) | exact .there (.there (.there (.there .here))) | exact .there (.there (.there (.there (.there .here)))) | exact .there (.there (.there (.there (.there (.there .here))))) | exact .there (.there (.there (.there (.there (.there (.there .here))))))); (first | rfl | exact Arr.len _ | (simp; done)); rfl)
            | ((with_reducible apply wpL_load1 (t := 46) kO46 HH.out); rfl; (first | exact .here | exact .there .here | exact .there (.there .here) | exact .there (.there (.there .here)) | exact .there (.there (.there (.there .here))) | exact .there (.there (.there (.there (.there .here)))) | exact .there (.there (.there (.there (.there (.there .here))))) | exact .there (.there (.there (.there (.there (.there (.there .here))))))); rfl; rfl)
            | ((with_reducible apply wpL_len (t := 46) Try.underlying46); rfl; rfl)
            | ((with_reducible apply wpL_len (t := 125) Try.underlying125); rfl; rfl)
            | ((with_reducible apply wpL_move); rfl; rfl)
            | ((with_reducible apply wpL_assign); rfl; rfl)
            | ((with_reducible apply wpL_pick); rfl; rfl; rfl)
            | ((with_reducible apply wpL_not); rfl; rfl)
            | ((with_reducible apply wpL_cmp (b := true)); rfl; rfl; rfl; (first | rfl | assumption | (simp only [cmpB, decide_eq_true_eq, decide_eq_false_iff_not, beq_iff_eq, bne_iff_ne, ne_eq, beq_eq_false_iff_ne, bne_eq_false_iff_eq, gt_iff_lt, ge_iff_le]; omega) | (simp; omega)); rfl)
            | ((with_reducible apply wpL_cmp (b := false)); rfl; rfl; rfl; (first | rfl | assumption | (simp only [cmpB, decide_eq_true_eq, decide_eq_false_iff_not, beq_iff_eq, bne_iff_ne, ne_eq, beq_eq_false_iff_ne, bne_eq_false_iff_eq, gt_iff_lt, ge_iff_le]; omega) | (simp; omega)); rfl)
            | ((with_reducible apply wpL_cmp); rfl; rfl; rfl; rfl; rfl)
            | ((with_reducible apply wpL_arith); rfl; rfl; rfl; (exact IntWalk.i64_in _ (by (try simp only [arithI]); omega)); rfl)); (try simp only [arithI, Act.put, Act.eval, List.setIfInBounds_toArray, List.set_cons_succ, List.set_cons_zero, Array.getD_eq_getD_getElem?, List.getElem?_toArray, List.getElem?_cons_succ, List.getElem?_cons_zero, Option.getD_some])))
      go_roundw
      case rel => exact ⟨k + 1, m2, r2, _, _, by omega, by go_num, HD.out, by go_num, HST.out, rfl, HH.out⟩
      case measure => simp [intOf]; omega
    · obtain rfl : k = h := by omega
      go_wp2_with (first
        | ((first
            | ((with_reducible apply wpL_skip); rfl; skip)
            | ((with_reducible apply wpL_nilCheck); rfl; rfl)
            | ((with_reducible apply wpL_loadArr (t := 34) kA34 HH.out); rfl; (first | exact .here | exact .there .here | exact .there (.there .here) | exact .there (.there (.there .here)) | exact .there (.there (.there (.there .here))) | exact .there (.there (.there (.there (.there .here)))) | exact .there (.there (.there (.there (.there (.there .here))))) | exact .there (.there (.there (.there (.there (.there (.there .here))))))); rfl)
            | ((with_reducible apply wpL_loadC (t := 34) kA34 HH.out); rfl; (first | exact .here | exact .there .here | exact .there (.there .here) | exact .there (.there (.there .here)) | exact .there (.there (.there (.there .here))) | exact .there (.there (.there (.there (.there .here)))) | exact .there (.there (.there (.there (.there (.there .here))))) | exact .there (.there (.there (.there (.there (.there (.there .here))))))); (first | rfl | exact Arr.len _ | (simp; done)); rfl)
            | ((with_reducible apply wpL_load1 (t := 46) kO46 HH.out); rfl; (first | exact .here | exact .there .here | exact .there (.there .here) | exact .there (.there (.there .here)) | exact .there (.there (.there (.there .here))) | exact .there (.there (.there (.there (.there .here)))) | exact .there (.there (.there (.there (.there (.there .here))))) | exact .there (.there (.there (.there (.there (.there (.there .here))))))); rfl; rfl)
            | ((with_reducible apply wpL_len (t := 46) Try.underlying46); rfl; rfl)
            | ((with_reducible apply wpL_len (t := 125) Try.underlying125); rfl; rfl)
            | ((with_reducible apply wpL_move); rfl; rfl)
            | ((with_reducible apply wpL_assign); rfl; rfl)
            | ((with_reducible apply wpL_pick); rfl; rfl; rfl)
            | ((with_reducible apply wpL_not); rfl; rfl)
            | ((with_reducible apply wpL_cmp (b := true)); rfl; rfl; rfl; (first | rfl | assumption | (simp only [cmpB, decide_eq_true_eq, decide_eq_false_iff_not, beq_iff_eq, bne_iff_ne, ne_eq, beq_eq_false_iff_ne, bne_eq_false_iff_eq, gt_iff_lt, ge_iff_le]; omega) | (simp; omega)); rfl)
            | ((with_reducible apply wpL_cmp (b := false)); rfl; rfl; rfl; (first | rfl | assumption | (simp only [cmpB, decide_eq_true_eq, decide_eq_false_iff_not, beq_iff_eq, bne_iff_ne, ne_eq, beq_eq_false_iff_ne, bne_eq_false_iff_eq, gt_iff_lt, ge_iff_le]; omega) | (simp; omega)); rfl)
            | ((with_reducible apply wpL_cmp); rfl; rfl; rfl; rfl; rfl)
            | ((with_reducible apply wpL_arith); rfl; rfl; rfl; (exact IntWalk.i64_in _ (by (try simp only [arithI]); omega)); rfl)); (try simp only [arithI, Act.put, Act.eval, List.setIfInBounds_toArray, List.set_cons_succ, List.set_cons_zero, Array.getD_eq_getD_getElem?, List.getElem?_toArray, List.getElem?_cons_succ, List.getElem?_cons_zero, Option.getD_some])))
      go_ret
      exact RetAs.of HRK.out HH.out.own0 HH.out.below
def pathC (l : List Nd) (i : Int) : Int := if checkC l.length = 0 then (if i < 0 ∨ (l.length : Int) ≤ i then 8 else 0) else checkC l.length
def pathV (l : List Nd) (i : Int) : List Nd := if pathC l i = 0 then pathL l (Nat.log2 l.length) i.toNat else []
def RetP (w : World) (r : List Nd) (c : Int) (e : Ending) (w' : World) : Prop :=
  ∃ ao cap, e = .returned (.tuple #[.slice ao r.length cap, .int .i64 c]) ∧ Below w.heap.size w w' ∧ Arrs w' (.slice ao r.length cap) r
theorem RetP.mk {w w' : World} {r s : List Nd} {ao : Option Addr} {b c : Int} {cap : Nat} (hr : r = s) (h : b = c) (hb : Below w.heap.size w w') (hl : Arrs w' (.slice ao r.length cap) r) : RetP w s c (.returned (.tuple #[.slice ao r.length cap, .int .i64 b])) w' := by
  subst hr h; exact ⟨ao, cap, rfl, hb, hl⟩
theorem RetP.no {w w' : World} {s : List Nd} {b c : Int} (hs : s = []) (h : b = c) (hb : Below w.heap.size w w') : RetP w s c (.returned (.tuple #[.slice none 0 0, .int .i64 b])) w' := RetP.mk (r := []) hs.symm h hb (Sl.nil _ _)
def RetPO (w : World) (r : List Nd) (c : Int) (e : Ending) (w' : World) : Prop :=
  ∃ ao cap, e = .returned (.tuple #[.slice ao r.length cap, .int .i64 c]) ∧ w'.ownsRow w.heap.size 34 16 (.slice ao r.length cap) r.length (flat r) ∧ Below w.heap.size w w'
theorem RetPO.mk {w w' : World} {r s : List Nd} {ao : Option Addr} {b c : Int} {cap : Nat} (hr : r = s) (h : b = c) (hb : Below w.heap.size w w') (hl : w'.ownsRow w.heap.size 34 16 (.slice ao r.length cap) r.length (flat r)) : RetPO w s c (.returned (.tuple #[.slice ao r.length cap, .int .i64 b])) w' := by
  subst hr h; exact ⟨ao, cap, rfl, hl, hb⟩
theorem RetPO.no {w w' : World} {s : List Nd} {b c : Int} (hs : s = []) (h : b = c) (hb : Below w.heap.size w w') : RetPO w s c (.returned (.tuple #[.slice none 0 0, .int .i64 b])) w' := RetPO.mk (r := []) hs.symm h hb (World.ownsRow_nil _ _ _ _)
end Go.Proofs.Ytgkfopodhikckaa

/- Own and same of the merkle laws; Height and Node of the reference. Condition: at most 10^9 nodes. -/
namespace Go.Proofs.Ytgkfopodhikckaa
open Go.RowKit
attribute [local irreducible] wpQuiet wpList
def OwnNRel (w : World) (l : List Nd) (v i : Value) (wr : World) : Prop :=
  ∃ (k : Nat) (r : List Nd) (ao : Option Addr) (cap : Nat), k ≤ l.length ∧ i = .int .i64 k ∧ r = l.take k ∧ v = .slice ao r.length cap ∧ Holds w [] [] [rowA 34 ao cap r] wr
set_option maxRecDepth 100000 in
set_option maxHeartbeats 2000000 in
theorem ownN_any (w : World) (v : Value) (l : List Nd) (hl : Arrs w v l) (hn : l.length ≤ 1000000000) : Calls Try.prog 49 #[v] w (RetAs 34 w l) := by
  obtain ⟨ao, cap, rfl, _⟩ := hl.shape
  have HL := hid hl
  clear hl
  have HH := hid (Holds.init w)
  go_enter Try.func49, Try.ntmps49
  go_wp2_with (first
    | ((first
        | ((with_reducible apply wpL_skip); rfl; skip)
        | ((with_reducible apply wpL_nilCheck); rfl; rfl)
        | ((with_reducible apply wpL_loadArr (t := 41) kA41 HH.out); rfl; (first | exact .here | exact .there .here | exact .there (.there .here) | exact .there (.there (.there .here)) | exact .there (.there (.there (.there .here))) | exact .there (.there (.there (.there (.there .here)))) | exact .there (.there (.there (.there (.there (.there .here))))) | exact .there (.there (.there (.there (.there (.there (.there .here))))))); rfl)
        | ((with_reducible apply wpL_loadC (t := 41) kA41 HH.out); rfl; (first | exact .here | exact .there .here | exact .there (.there .here) | exact .there (.there (.there .here)) | exact .there (.there (.there (.there .here))) | exact .there (.there (.there (.there (.there .here)))) | exact .there (.there (.there (.there (.there (.there .here))))) | exact .there (.there (.there (.there (.there (.there (.there .here))))))); (first | rfl | exact Arr.len _ | (simp; done)); rfl)
        | ((with_reducible apply wpL_len (t := 30) Try.underlying30); rfl; rfl)
        | ((with_reducible apply wpL_len (t := 46) Try.underlying46); rfl; rfl)
        | ((with_reducible apply wpL_move); rfl; rfl)
        | ((with_reducible apply wpL_assign); rfl; rfl)
        | ((with_reducible apply wpL_pick); rfl; rfl; rfl)
        | ((with_reducible apply wpL_not); rfl; rfl)
        | ((with_reducible apply wpL_cmp (b := true)); rfl; rfl; rfl; (first | rfl | assumption | (simp only [cmpB, decide_eq_true_eq, decide_eq_false_iff_not, beq_iff_eq, bne_iff_ne, ne_eq, beq_eq_false_iff_ne, bne_eq_false_iff_eq, gt_iff_lt, ge_iff_le]; omega) | (simp; omega)); rfl)
        | ((with_reducible apply wpL_cmp (b := false)); rfl; rfl; rfl; (first | rfl | assumption | (simp only [cmpB, decide_eq_true_eq, decide_eq_false_iff_not, beq_iff_eq, bne_iff_ne, ne_eq, beq_eq_false_iff_ne, bne_eq_false_iff_eq, gt_iff_lt, ge_iff_le]; omega) | (simp; omega)); rfl)
        | ((with_reducible apply wpL_cmp); rfl; rfl; rfl; rfl; rfl)
        | ((with_reducible apply wpL_arith); rfl; rfl; rfl; (exact IntWalk.i64_in _ (by (try simp only [arithI]); omega)); rfl)); (try simp only [arithI, Act.put, Act.eval, List.setIfInBounds_toArray, List.set_cons_succ, List.set_cons_zero, Array.getD_eq_getD_getElem?, List.getElem?_toArray, List.getElem?_cons_succ, List.getElem?_cons_zero, Option.getD_some])))
  go_loopw [3, 4] (OwnNRel w l) (fun _ i _ => l.length - (intOf i).toNat)
  case atStart => exact ⟨0, [], none, 0, Nat.zero_le _, rfl, rfl, rfl, HH.out.addNil 34 16⟩
  case round =>
    obtain ⟨k, r, ao1, cap1, hk, rfl, hrk, rfl, hr⟩ := hrel
    clear HH
    have HH := hid hr
    have HRK := hid hrk
    have hrl : r.length = k := by rw [hrk, List.length_take]; omega
    clear hr hrk
    by_cases hlt : k < l.length
    · obtain ⟨ad, cap', e⟩ := HL.out.some (by omega)
      cases e
      obtain ⟨x, hx⟩ : ∃ x, l.getD k Nd0 = x := ⟨_, rfl⟩
      have HAR := hid (fun w1 (h1 : Holds w [] [] [rowA 34 ao1 cap1 r] w1) => get_as (show Arrs w1 (.slice (some ad) l.length cap) l from h1.sl HL.out) hlt (show l[k] = x by rw [← hx]; simp [hlt]))
      obtain ⟨r2, hr2⟩ : ∃ r2, r ++ [x] = r2 := ⟨_, rfl⟩
      have HR2 := hid hr2
      have HST := hid (show r2 = l.take (k + 1) by rw [← hr2, HRK.out, ← List.take_append_getElem hlt, ← hx]; simp [hlt])
      clear hx hr2
      go_wp2_with (first
        | ((first
            | ((with_reducible apply wpL_skip); rfl; skip)
            | ((with_reducible apply wpL_idx (j := k) kE30); rfl; rfl; rfl; (exact hlt); rfl)
            | ((with_reducible apply wpL_loadEl (v := x) kA41 (HAR.out _ HH.out)); rfl; rfl)
            | ((with_reducible apply wpL_buildA kE46 x (by decide)); rfl; (exact HH.out); rfl; (intro g_ w_ hq_; clear HH; have HH := hid hq_; clear hq_))
            | ((with_reducible apply wpL_appendA (l := r) (l2 := [x]) (r := r2) kE46 HH.out.swap HH.out.sl0 HR2.out); rfl; rfl; (exact (by simp; omega)); rfl; rfl; rfl; (intro ao4 cap4 w_ hq_; clear HH; have HH := hid hq_.dropSnd; clear hq_))
            | ((with_reducible apply wpL_nilCheck); rfl; rfl)
            | ((with_reducible apply wpL_loadArr (t := 41) kA41 HH.out); rfl; (first | exact .here | exact .there .here | exact .there (.there .here) | exact .there (.there (.there .here)) | exact .there (.there (.there (.there .here))) | exact .there (.there (.there (.there (.there .here)))) | exact .there (.there (.there (.there (.there (.there .here))))) | exact .there (.there (.there (.there (.there (.there (.there .here))))))); rfl)
            | ((with_reducible apply wpL_loadC (t := 41) kA41 HH.out); rfl; (first | exact .here | exact .there .here | exact .there (.there .here) | exact .there (.there (.there .here)) | exact .there (.there (.there (.there .here))) | exact .there (.there (.there (.there (.there .here)))) | exact .there (.there (.there (.there (.there (.there .here))))) | exact .there (.there (.there (.there (.there (.there (.there .here))))))); (first | rfl | exact Arr.len _ | (simp; done)); rfl)
            | ((with_reducible apply wpL_len (t := 30) Try.underlying30); rfl; rfl)
            | ((with_reducible apply wpL_len (t := 46) Try.underlying46); rfl; rfl)
            | ((with_reducible apply wpL_move); rfl; rfl)
            | ((with_reducible apply wpL_assign); rfl; rfl)
            | ((with_reducible apply wpL_pick); rfl; rfl; rfl)
            | ((with_reducible apply wpL_not); rfl; rfl)
            | ((with_reducible apply wpL_cmp (b := true)); rfl; rfl; rfl; (first | rfl | assumption | (simp only [cmpB, decide_eq_true_eq, decide_eq_false_iff_not, beq_iff_eq, bne_iff_ne, ne_eq, beq_eq_false_iff_ne, bne_eq_false_iff_eq, gt_iff_lt, ge_iff_le]; omega) | (simp; omega)); rfl)
            | ((with_reducible apply wpL_cmp (b := false)); rfl; rfl; rfl; (first | rfl | assumption | (simp only [cmpB, decide_eq_true_eq, decide_eq_false_iff_not, beq_iff_eq, bne_iff_ne, ne_eq, beq_eq_false_iff_ne, bne_eq_false_iff_eq, gt_iff_lt, ge_iff_le]; omega) | (simp; omega)); rfl)
            | ((with_reducible apply wpL_cmp); rfl; rfl; rfl; rfl; rfl)
            | ((with_reducible apply wpL_arith); rfl; rfl; rfl; (exact IntWalk.i64_in _ (by (try simp only [arithI]); omega)); rfl)); (try simp only [arithI, Act.put, Act.eval, List.setIfInBounds_toArray, List.set_cons_succ, List.set_cons_zero, Array.getD_eq_getD_getElem?, List.getElem?_toArray, List.getElem?_cons_succ, List.getElem?_cons_zero, Option.getD_some])))
      go_roundw
      case rel => exact ⟨k + 1, r2, _, _, by omega, by go_num, HST.out, rfl, HH.out⟩
      case measure => simp [intOf]; omega
    · have HE := hid (show r = l by rw [HRK.out, List.take_of_length_le (by omega)])
      go_wp2_with (first
        | ((first
            | ((with_reducible apply wpL_skip); rfl; skip)
            | ((with_reducible apply wpL_nilCheck); rfl; rfl)
            | ((with_reducible apply wpL_loadArr (t := 41) kA41 HH.out); rfl; (first | exact .here | exact .there .here | exact .there (.there .here) | exact .there (.there (.there .here)) | exact .there (.there (.there (.there .here))) | exact .there (.there (.there (.there (.there .here)))) | exact .there (.there (.there (.there (.there (.there .here))))) | exact .there (.there (.there (.there (.there (.there (.there .here))))))); rfl)
            | ((with_reducible apply wpL_loadC (t := 41) kA41 HH.out); rfl; (first | exact .here | exact .there .here | exact .there (.there .here) | exact .there (.there (.there .here)) | exact .there (.there (.there (.there .here))) | exact .there (.there (.there (.there (.there .here)))) | exact .there (.there (.there (.there (.there (.there .here))))) | exact .there (.there (.there (.there (.there (.there (.there .here))))))); (first | rfl | exact Arr.len _ | (simp; done)); rfl)
            | ((with_reducible apply wpL_len (t := 30) Try.underlying30); rfl; rfl)
            | ((with_reducible apply wpL_len (t := 46) Try.underlying46); rfl; rfl)
            | ((with_reducible apply wpL_move); rfl; rfl)
            | ((with_reducible apply wpL_assign); rfl; rfl)
            | ((with_reducible apply wpL_pick); rfl; rfl; rfl)
            | ((with_reducible apply wpL_not); rfl; rfl)
            | ((with_reducible apply wpL_cmp (b := true)); rfl; rfl; rfl; (first | rfl | assumption | (simp only [cmpB, decide_eq_true_eq, decide_eq_false_iff_not, beq_iff_eq, bne_iff_ne, ne_eq, beq_eq_false_iff_ne, bne_eq_false_iff_eq, gt_iff_lt, ge_iff_le]; omega) | (simp; omega)); rfl)
            | ((with_reducible apply wpL_cmp (b := false)); rfl; rfl; rfl; (first | rfl | assumption | (simp only [cmpB, decide_eq_true_eq, decide_eq_false_iff_not, beq_iff_eq, bne_iff_ne, ne_eq, beq_eq_false_iff_ne, bne_eq_false_iff_eq, gt_iff_lt, ge_iff_le]; omega) | (simp; omega)); rfl)
            | ((with_reducible apply wpL_cmp); rfl; rfl; rfl; rfl; rfl)
            | ((with_reducible apply wpL_arith); rfl; rfl; rfl; (exact IntWalk.i64_in _ (by (try simp only [arithI]); omega)); rfl)); (try simp only [arithI, Act.put, Act.eval, List.setIfInBounds_toArray, List.set_cons_succ, List.set_cons_zero, Array.getD_eq_getD_getElem?, List.getElem?_toArray, List.getElem?_cons_succ, List.getElem?_cons_zero, Option.getD_some])))
      go_ret
      exact RetAs.of HE.out HH.out.own0 HH.out.below
def SameNRel (w : World) (l m : List Nd) (i : Value) (wr : World) : Prop :=
  ∃ k : Nat, k ≤ l.length ∧ i = .int .i64 k ∧ l.take k = m.take k ∧ Holds w [] [] [] wr
theorem take_nextN {l m : List Nd} {k : Nat} (hl : k < l.length) (hm : k < m.length) (h : l[k] = m[k]) (ht : l.take k = m.take k) : l.take (k + 1) = m.take (k + 1) := by
  rw [← List.take_append_getElem hl, ← List.take_append_getElem hm, ht, h]
set_option maxRecDepth 100000 in
set_option maxHeartbeats 2000000 in
theorem sameN_any (w : World) (v1 v2 : Value) (l m : List Nd) (h1 : Arrs w v1 l) (h2 : Arrs w v2 m) (hn : l.length ≤ 1000000000) (hn2 : m.length ≤ 1000000000) : Calls Try.prog 28 #[v1, v2] w (RetB w (l == m)) := by
  obtain ⟨a1, c1, rfl, _⟩ := h1.shape
  obtain ⟨a2, c2, rfl, _⟩ := h2.shape
  have HH := hid (Holds.init w)
  have H1 := hid h1
  have H2 := hid h2
  clear h1 h2
  by_cases hlen : l.length = m.length
  · have hb : ((l.length : Int) != (m.length : Int)) = false := by simp [hlen]
    have HL := hid hlen
    clear hlen
    go_enter Try.func28, Try.ntmps28
    go_wp2_with (first
      | ((first
          | ((with_reducible apply wpL_skip); rfl; skip)
          | ((with_reducible apply wpL_nilCheck); rfl; rfl)
          | ((with_reducible apply wpL_loadArr (t := 34) kA34 HH.out); rfl; (first | exact .here | exact .there .here | exact .there (.there .here) | exact .there (.there (.there .here)) | exact .there (.there (.there (.there .here))) | exact .there (.there (.there (.there (.there .here)))) | exact .there (.there (.there (.there (.there (.there .here))))) | exact .there (.there (.there (.there (.there (.there (.there .here))))))); rfl)
          | ((with_reducible apply wpL_loadC (t := 34) kA34 HH.out); rfl; (first | exact .here | exact .there .here | exact .there (.there .here) | exact .there (.there (.there .here)) | exact .there (.there (.there (.there .here))) | exact .there (.there (.there (.there (.there .here)))) | exact .there (.there (.there (.there (.there (.there .here))))) | exact .there (.there (.there (.there (.there (.there (.there .here))))))); (first | rfl | exact Arr.len _ | (simp; done)); rfl)
          | ((with_reducible apply wpL_loadArr (t := 41) kA41 HH.out); rfl; (first | exact .here | exact .there .here | exact .there (.there .here) | exact .there (.there (.there .here)) | exact .there (.there (.there (.there .here))) | exact .there (.there (.there (.there (.there .here)))) | exact .there (.there (.there (.there (.there (.there .here))))) | exact .there (.there (.there (.there (.there (.there (.there .here))))))); rfl)
          | ((with_reducible apply wpL_loadC (t := 41) kA41 HH.out); rfl; (first | exact .here | exact .there .here | exact .there (.there .here) | exact .there (.there (.there .here)) | exact .there (.there (.there (.there .here))) | exact .there (.there (.there (.there (.there .here)))) | exact .there (.there (.there (.there (.there (.there .here))))) | exact .there (.there (.there (.there (.there (.there (.there .here))))))); (first | rfl | exact Arr.len _ | (simp; done)); rfl)
          | ((with_reducible apply wpL_len (t := 30) Try.underlying30); rfl; rfl)
          | ((with_reducible apply wpL_len (t := 46) Try.underlying46); rfl; rfl)
          | ((with_reducible apply wpL_move); rfl; rfl)
          | ((with_reducible apply wpL_assign); rfl; rfl)
          | ((with_reducible apply wpL_pick); rfl; rfl; rfl)
          | ((with_reducible apply wpL_not); rfl; rfl)
          | ((with_reducible apply wpL_cmp (b := true)); rfl; rfl; rfl; (first | rfl | assumption | (simp only [cmpB, decide_eq_true_eq, decide_eq_false_iff_not, beq_iff_eq, bne_iff_ne, ne_eq, beq_eq_false_iff_ne, bne_eq_false_iff_eq, gt_iff_lt, ge_iff_le]; omega) | (simp; omega)); rfl)
          | ((with_reducible apply wpL_cmp (b := false)); rfl; rfl; rfl; (first | rfl | assumption | (simp only [cmpB, decide_eq_true_eq, decide_eq_false_iff_not, beq_iff_eq, bne_iff_ne, ne_eq, beq_eq_false_iff_ne, bne_eq_false_iff_eq, gt_iff_lt, ge_iff_le]; omega) | (simp; omega)); rfl)
          | ((with_reducible apply wpL_cmp); rfl; rfl; rfl; rfl; rfl)
          | ((with_reducible apply wpL_arith); rfl; rfl; rfl; (exact IntWalk.i64_in _ (by (try simp only [arithI]); omega)); rfl)); (try simp only [arithI, Act.put, Act.eval, List.setIfInBounds_toArray, List.set_cons_succ, List.set_cons_zero, Array.getD_eq_getD_getElem?, List.getElem?_toArray, List.getElem?_cons_succ, List.getElem?_cons_zero, Option.getD_some])))
    go_loopw [5] (SameNRel w l m) (fun i _ => l.length - (intOf i).toNat)
    case atStart => exact ⟨0, Nat.zero_le _, rfl, rfl, HH.out⟩
    case round =>
      obtain ⟨k, hk, rfl, htk, hr⟩ := hrel
      clear HH
      have HH := hid hr
      have HT := hid htk
      clear hr htk
      by_cases hlt : k < l.length
      · have hlt2 : k < m.length := by rw [← HL.out]; exact hlt
        obtain ⟨x1, y1, e⟩ := H1.out.some (by omega)
        cases e
        obtain ⟨x2, y2, e⟩ := H2.out.some (by omega)
        cases e
        by_cases hxy : l[k] = m[k]
        · have HXY := hid (show (!(l[k] == m[k])) = false by rw [hxy]; simp)
          have HNT := hid (take_nextN hlt hlt2 hxy HT.out)
          clear hxy
          go_wp2_with (first
            | ((first
                | ((with_reducible apply wpL_skip); rfl; skip)
                | ((with_reducible apply wpL_nilCheck); rfl; rfl)
                | ((with_reducible apply wpL_loadArr (t := 34) kA34 HH.out); rfl; (first | exact .here | exact .there .here | exact .there (.there .here) | exact .there (.there (.there .here)) | exact .there (.there (.there (.there .here))) | exact .there (.there (.there (.there (.there .here)))) | exact .there (.there (.there (.there (.there (.there .here))))) | exact .there (.there (.there (.there (.there (.there (.there .here))))))); rfl)
                | ((with_reducible apply wpL_loadC (t := 34) kA34 HH.out); rfl; (first | exact .here | exact .there .here | exact .there (.there .here) | exact .there (.there (.there .here)) | exact .there (.there (.there (.there .here))) | exact .there (.there (.there (.there (.there .here)))) | exact .there (.there (.there (.there (.there (.there .here))))) | exact .there (.there (.there (.there (.there (.there (.there .here))))))); (first | rfl | exact Arr.len _ | (simp; done)); rfl)
                | ((with_reducible apply wpL_loadArr (t := 41) kA41 HH.out); rfl; (first | exact .here | exact .there .here | exact .there (.there .here) | exact .there (.there (.there .here)) | exact .there (.there (.there (.there .here))) | exact .there (.there (.there (.there (.there .here)))) | exact .there (.there (.there (.there (.there (.there .here))))) | exact .there (.there (.there (.there (.there (.there (.there .here))))))); rfl)
                | ((with_reducible apply wpL_loadC (t := 41) kA41 HH.out); rfl; (first | exact .here | exact .there .here | exact .there (.there .here) | exact .there (.there (.there .here)) | exact .there (.there (.there (.there .here))) | exact .there (.there (.there (.there (.there .here)))) | exact .there (.there (.there (.there (.there (.there .here))))) | exact .there (.there (.there (.there (.there (.there (.there .here))))))); (first | rfl | exact Arr.len _ | (simp; done)); rfl)
                | ((with_reducible apply wpL_len (t := 30) Try.underlying30); rfl; rfl)
                | ((with_reducible apply wpL_len (t := 46) Try.underlying46); rfl; rfl)
                | ((with_reducible apply wpL_move); rfl; rfl)
                | ((with_reducible apply wpL_assign); rfl; rfl)
                | ((with_reducible apply wpL_pick); rfl; rfl; rfl)
                | ((with_reducible apply wpL_not); rfl; rfl)
                | ((with_reducible apply wpL_cmp (b := true)); rfl; rfl; rfl; (first | rfl | assumption | (simp only [cmpB, decide_eq_true_eq, decide_eq_false_iff_not, beq_iff_eq, bne_iff_ne, ne_eq, beq_eq_false_iff_ne, bne_eq_false_iff_eq, gt_iff_lt, ge_iff_le]; omega) | (simp; omega)); rfl)
                | ((with_reducible apply wpL_cmp (b := false)); rfl; rfl; rfl; (first | rfl | assumption | (simp only [cmpB, decide_eq_true_eq, decide_eq_false_iff_not, beq_iff_eq, bne_iff_ne, ne_eq, beq_eq_false_iff_ne, bne_eq_false_iff_eq, gt_iff_lt, ge_iff_le]; omega) | (simp; omega)); rfl)
                | ((with_reducible apply wpL_cmp); rfl; rfl; rfl; rfl; rfl)
                | ((with_reducible apply wpL_arith); rfl; rfl; rfl; (exact IntWalk.i64_in _ (by (try simp only [arithI]); omega)); rfl)); (try simp only [arithI, Act.put, Act.eval, List.setIfInBounds_toArray, List.set_cons_succ, List.set_cons_zero, Array.getD_eq_getD_getElem?, List.getElem?_toArray, List.getElem?_cons_succ, List.getElem?_cons_zero, Option.getD_some])))
          refine wp_region_holds (by kernel_rfl) (by kernel_rfl) HH.out ?_
          repeat ((first
            | ((with_reducible apply wpQ_skip); rfl; skip)
            | ((with_reducible apply wpQ_index (dst := some 19) kE46 (j := k)); rfl; rfl; rfl; (exact hlt); rfl)
            | ((with_reducible apply wpQ_index (dst := some 23) kE30 (j := k)); rfl; rfl; rfl; (exact hlt2); rfl)
            | ((with_reducible apply wpQ_loadEl (dst := some 20) (v := l[k]) kA34 (fun wq hwq => Arrs.get (show Arrs wq _ l from Holds.sl hwq H1.out) k hlt)); rfl; rfl)
            | ((with_reducible apply wpQ_loadEl (dst := some 24) (v := m[k]) kA41 (fun wq hwq => Arrs.get (show Arrs wq _ m from Holds.sl hwq H2.out) k hlt2)); rfl; rfl)
            | ((with_reducible apply wpQ_neqA (b := false) (p := l[k]) (q := m[k]) kR34); rfl; rfl; (exact HXY.out); rfl)
            | ((with_reducible apply wpQ_nilCheck); rfl; rfl)
            | ((with_reducible apply wpQ_loadArr (t := 34) kA34); rfl; (first | exact .here | exact .there .here | exact .there (.there .here) | exact .there (.there (.there .here)) | exact .there (.there (.there (.there .here))) | exact .there (.there (.there (.there (.there .here)))) | exact .there (.there (.there (.there (.there (.there .here))))) | exact .there (.there (.there (.there (.there (.there (.there .here))))))); rfl)
            | ((with_reducible apply wpQ_loadC (t := 34) kA34); rfl; (first | exact .here | exact .there .here | exact .there (.there .here) | exact .there (.there (.there .here)) | exact .there (.there (.there (.there .here))) | exact .there (.there (.there (.there (.there .here)))) | exact .there (.there (.there (.there (.there (.there .here))))) | exact .there (.there (.there (.there (.there (.there (.there .here))))))); (first | rfl | exact Arr.len _ | (simp; done)); rfl)
            | ((with_reducible apply wpQ_loadArr (t := 41) kA41); rfl; (first | exact .here | exact .there .here | exact .there (.there .here) | exact .there (.there (.there .here)) | exact .there (.there (.there (.there .here))) | exact .there (.there (.there (.there (.there .here)))) | exact .there (.there (.there (.there (.there (.there .here))))) | exact .there (.there (.there (.there (.there (.there (.there .here))))))); rfl)
            | ((with_reducible apply wpQ_loadC (t := 41) kA41); rfl; (first | exact .here | exact .there .here | exact .there (.there .here) | exact .there (.there (.there .here)) | exact .there (.there (.there (.there .here))) | exact .there (.there (.there (.there (.there .here)))) | exact .there (.there (.there (.there (.there (.there .here))))) | exact .there (.there (.there (.there (.there (.there (.there .here))))))); (first | rfl | exact Arr.len _ | (simp; done)); rfl)
            | ((with_reducible apply wpQ_len (t := 30) Try.underlying30); rfl; rfl)
            | ((with_reducible apply wpQ_len (t := 46) Try.underlying46); rfl; rfl)
            | ((with_reducible apply wpQ_move); rfl; rfl)
            | ((with_reducible apply wpQ_assign); rfl; rfl)
            | ((with_reducible apply wpQ_pick); rfl; rfl; rfl)
            | ((with_reducible apply wpQ_not); rfl; rfl)
            | ((with_reducible apply wpQ_cmp (b := true)); rfl; rfl; rfl; (first | rfl | assumption | (simp only [cmpB, decide_eq_true_eq, decide_eq_false_iff_not, beq_iff_eq, bne_iff_ne, ne_eq, beq_eq_false_iff_ne, bne_eq_false_iff_eq, gt_iff_lt, ge_iff_le]; omega) | (simp; omega)); rfl)
            | ((with_reducible apply wpQ_cmp (b := false)); rfl; rfl; rfl; (first | rfl | assumption | (simp only [cmpB, decide_eq_true_eq, decide_eq_false_iff_not, beq_iff_eq, bne_iff_ne, ne_eq, beq_eq_false_iff_ne, bne_eq_false_iff_eq, gt_iff_lt, ge_iff_le]; omega) | (simp; omega)); rfl)
            | ((with_reducible apply wpQ_cmp); rfl; rfl; rfl; rfl; rfl)
            | ((with_reducible apply wpQ_arith); rfl; rfl; rfl; (exact IntWalk.i64_in _ (by (try simp only [arithI]); omega)); rfl)); (try simp only [if_true, if_false, Bool.false_eq_true, arithI, Act.put, Act.eval, List.setIfInBounds_toArray, List.set_cons_succ, List.set_cons_zero, Array.getD_eq_getD_getElem?, List.getElem?_toArray, List.getElem?_cons_succ, List.getElem?_cons_zero, Option.getD_some]))
          refine wpQuiet_nil ?_
          intro wq hq_
          have HQ := hid hq_
          clear hq_
          clear HH
          have HH := HQ
          clear HQ
          go_wp2_with (first
            | ((first
                | ((with_reducible apply wpL_skip); rfl; skip)
                | ((with_reducible apply wpL_nilCheck); rfl; rfl)
                | ((with_reducible apply wpL_loadArr (t := 34) kA34 HH.out); rfl; (first | exact .here | exact .there .here | exact .there (.there .here) | exact .there (.there (.there .here)) | exact .there (.there (.there (.there .here))) | exact .there (.there (.there (.there (.there .here)))) | exact .there (.there (.there (.there (.there (.there .here))))) | exact .there (.there (.there (.there (.there (.there (.there .here))))))); rfl)
                | ((with_reducible apply wpL_loadC (t := 34) kA34 HH.out); rfl; (first | exact .here | exact .there .here | exact .there (.there .here) | exact .there (.there (.there .here)) | exact .there (.there (.there (.there .here))) | exact .there (.there (.there (.there (.there .here)))) | exact .there (.there (.there (.there (.there (.there .here))))) | exact .there (.there (.there (.there (.there (.there (.there .here))))))); (first | rfl | exact Arr.len _ | (simp; done)); rfl)
                | ((with_reducible apply wpL_loadArr (t := 41) kA41 HH.out); rfl; (first | exact .here | exact .there .here | exact .there (.there .here) | exact .there (.there (.there .here)) | exact .there (.there (.there (.there .here))) | exact .there (.there (.there (.there (.there .here)))) | exact .there (.there (.there (.there (.there (.there .here))))) | exact .there (.there (.there (.there (.there (.there (.there .here))))))); rfl)
                | ((with_reducible apply wpL_loadC (t := 41) kA41 HH.out); rfl; (first | exact .here | exact .there .here | exact .there (.there .here) | exact .there (.there (.there .here)) | exact .there (.there (.there (.there .here))) | exact .there (.there (.there (.there (.there .here)))) | exact .there (.there (.there (.there (.there (.there .here))))) | exact .there (.there (.there (.there (.there (.there (.there .here))))))); (first | rfl | exact Arr.len _ | (simp; done)); rfl)
                | ((with_reducible apply wpL_len (t := 30) Try.underlying30); rfl; rfl)
                | ((with_reducible apply wpL_len (t := 46) Try.underlying46); rfl; rfl)
                | ((with_reducible apply wpL_move); rfl; rfl)
                | ((with_reducible apply wpL_assign); rfl; rfl)
                | ((with_reducible apply wpL_pick); rfl; rfl; rfl)
                | ((with_reducible apply wpL_not); rfl; rfl)
                | ((with_reducible apply wpL_cmp (b := true)); rfl; rfl; rfl; (first | rfl | assumption | (simp only [cmpB, decide_eq_true_eq, decide_eq_false_iff_not, beq_iff_eq, bne_iff_ne, ne_eq, beq_eq_false_iff_ne, bne_eq_false_iff_eq, gt_iff_lt, ge_iff_le]; omega) | (simp; omega)); rfl)
                | ((with_reducible apply wpL_cmp (b := false)); rfl; rfl; rfl; (first | rfl | assumption | (simp only [cmpB, decide_eq_true_eq, decide_eq_false_iff_not, beq_iff_eq, bne_iff_ne, ne_eq, beq_eq_false_iff_ne, bne_eq_false_iff_eq, gt_iff_lt, ge_iff_le]; omega) | (simp; omega)); rfl)
                | ((with_reducible apply wpL_cmp); rfl; rfl; rfl; rfl; rfl)
                | ((with_reducible apply wpL_arith); rfl; rfl; rfl; (exact IntWalk.i64_in _ (by (try simp only [arithI]); omega)); rfl)); (try simp only [arithI, Act.put, Act.eval, List.setIfInBounds_toArray, List.set_cons_succ, List.set_cons_zero, Array.getD_eq_getD_getElem?, List.getElem?_toArray, List.getElem?_cons_succ, List.getElem?_cons_zero, Option.getD_some])))
          go_roundw
          case rel => exact ⟨k + 1, by omega, by go_num, HNT.out, HH.out⟩
          case measure => simp [intOf]; omega
        · have HXY := hid (show (!(l[k] == m[k])) = true by rw [Bool.not_eq_true', beq_eq_false_iff_ne]; exact hxy)
          have HNE := hid (show (l == m) = false by
            simp only [beq_eq_false_iff_ne]
            intro e
            subst e
            exact hxy rfl)
          clear hxy
          go_wp2_with (first
            | ((first
                | ((with_reducible apply wpL_skip); rfl; skip)
                | ((with_reducible apply wpL_nilCheck); rfl; rfl)
                | ((with_reducible apply wpL_loadArr (t := 34) kA34 HH.out); rfl; (first | exact .here | exact .there .here | exact .there (.there .here) | exact .there (.there (.there .here)) | exact .there (.there (.there (.there .here))) | exact .there (.there (.there (.there (.there .here)))) | exact .there (.there (.there (.there (.there (.there .here))))) | exact .there (.there (.there (.there (.there (.there (.there .here))))))); rfl)
                | ((with_reducible apply wpL_loadC (t := 34) kA34 HH.out); rfl; (first | exact .here | exact .there .here | exact .there (.there .here) | exact .there (.there (.there .here)) | exact .there (.there (.there (.there .here))) | exact .there (.there (.there (.there (.there .here)))) | exact .there (.there (.there (.there (.there (.there .here))))) | exact .there (.there (.there (.there (.there (.there (.there .here))))))); (first | rfl | exact Arr.len _ | (simp; done)); rfl)
                | ((with_reducible apply wpL_loadArr (t := 41) kA41 HH.out); rfl; (first | exact .here | exact .there .here | exact .there (.there .here) | exact .there (.there (.there .here)) | exact .there (.there (.there (.there .here))) | exact .there (.there (.there (.there (.there .here)))) | exact .there (.there (.there (.there (.there (.there .here))))) | exact .there (.there (.there (.there (.there (.there (.there .here))))))); rfl)
                | ((with_reducible apply wpL_loadC (t := 41) kA41 HH.out); rfl; (first | exact .here | exact .there .here | exact .there (.there .here) | exact .there (.there (.there .here)) | exact .there (.there (.there (.there .here))) | exact .there (.there (.there (.there (.there .here)))) | exact .there (.there (.there (.there (.there (.there .here))))) | exact .there (.there (.there (.there (.there (.there (.there .here))))))); (first | rfl | exact Arr.len _ | (simp; done)); rfl)
                | ((with_reducible apply wpL_len (t := 30) Try.underlying30); rfl; rfl)
                | ((with_reducible apply wpL_len (t := 46) Try.underlying46); rfl; rfl)
                | ((with_reducible apply wpL_move); rfl; rfl)
                | ((with_reducible apply wpL_assign); rfl; rfl)
                | ((with_reducible apply wpL_pick); rfl; rfl; rfl)
                | ((with_reducible apply wpL_not); rfl; rfl)
                | ((with_reducible apply wpL_cmp (b := true)); rfl; rfl; rfl; (first | rfl | assumption | (simp only [cmpB, decide_eq_true_eq, decide_eq_false_iff_not, beq_iff_eq, bne_iff_ne, ne_eq, beq_eq_false_iff_ne, bne_eq_false_iff_eq, gt_iff_lt, ge_iff_le]; omega) | (simp; omega)); rfl)
                | ((with_reducible apply wpL_cmp (b := false)); rfl; rfl; rfl; (first | rfl | assumption | (simp only [cmpB, decide_eq_true_eq, decide_eq_false_iff_not, beq_iff_eq, bne_iff_ne, ne_eq, beq_eq_false_iff_ne, bne_eq_false_iff_eq, gt_iff_lt, ge_iff_le]; omega) | (simp; omega)); rfl)
                | ((with_reducible apply wpL_cmp); rfl; rfl; rfl; rfl; rfl)
                | ((with_reducible apply wpL_arith); rfl; rfl; rfl; (exact IntWalk.i64_in _ (by (try simp only [arithI]); omega)); rfl)); (try simp only [arithI, Act.put, Act.eval, List.setIfInBounds_toArray, List.set_cons_succ, List.set_cons_zero, Array.getD_eq_getD_getElem?, List.getElem?_toArray, List.getElem?_cons_succ, List.getElem?_cons_zero, Option.getD_some])))
          refine wp_region_holds (by kernel_rfl) (by kernel_rfl) HH.out ?_
          repeat ((first
            | ((with_reducible apply wpQ_skip); rfl; skip)
            | ((with_reducible apply wpQ_index (dst := some 19) kE46 (j := k)); rfl; rfl; rfl; (exact hlt); rfl)
            | ((with_reducible apply wpQ_index (dst := some 23) kE30 (j := k)); rfl; rfl; rfl; (exact hlt2); rfl)
            | ((with_reducible apply wpQ_loadEl (dst := some 20) (v := l[k]) kA34 (fun wq hwq => Arrs.get (show Arrs wq _ l from Holds.sl hwq H1.out) k hlt)); rfl; rfl)
            | ((with_reducible apply wpQ_loadEl (dst := some 24) (v := m[k]) kA41 (fun wq hwq => Arrs.get (show Arrs wq _ m from Holds.sl hwq H2.out) k hlt2)); rfl; rfl)
            | ((with_reducible apply wpQ_neqA (b := true) (p := l[k]) (q := m[k]) kR34); rfl; rfl; (exact HXY.out); rfl)
            | ((with_reducible apply wpQ_nilCheck); rfl; rfl)
            | ((with_reducible apply wpQ_loadArr (t := 34) kA34); rfl; (first | exact .here | exact .there .here | exact .there (.there .here) | exact .there (.there (.there .here)) | exact .there (.there (.there (.there .here))) | exact .there (.there (.there (.there (.there .here)))) | exact .there (.there (.there (.there (.there (.there .here))))) | exact .there (.there (.there (.there (.there (.there (.there .here))))))); rfl)
            | ((with_reducible apply wpQ_loadC (t := 34) kA34); rfl; (first | exact .here | exact .there .here | exact .there (.there .here) | exact .there (.there (.there .here)) | exact .there (.there (.there (.there .here))) | exact .there (.there (.there (.there (.there .here)))) | exact .there (.there (.there (.there (.there (.there .here))))) | exact .there (.there (.there (.there (.there (.there (.there .here))))))); (first | rfl | exact Arr.len _ | (simp; done)); rfl)
            | ((with_reducible apply wpQ_loadArr (t := 41) kA41); rfl; (first | exact .here | exact .there .here | exact .there (.there .here) | exact .there (.there (.there .here)) | exact .there (.there (.there (.there .here))) | exact .there (.there (.there (.there (.there .here)))) | exact .there (.there (.there (.there (.there (.there .here))))) | exact .there (.there (.there (.there (.there (.there (.there .here))))))); rfl)
            | ((with_reducible apply wpQ_loadC (t := 41) kA41); rfl; (first | exact .here | exact .there .here | exact .there (.there .here) | exact .there (.there (.there .here)) | exact .there (.there (.there (.there .here))) | exact .there (.there (.there (.there (.there .here)))) | exact .there (.there (.there (.there (.there (.there .here))))) | exact .there (.there (.there (.there (.there (.there (.there .here))))))); (first | rfl | exact Arr.len _ | (simp; done)); rfl)
            | ((with_reducible apply wpQ_len (t := 30) Try.underlying30); rfl; rfl)
            | ((with_reducible apply wpQ_len (t := 46) Try.underlying46); rfl; rfl)
            | ((with_reducible apply wpQ_move); rfl; rfl)
            | ((with_reducible apply wpQ_assign); rfl; rfl)
            | ((with_reducible apply wpQ_pick); rfl; rfl; rfl)
            | ((with_reducible apply wpQ_not); rfl; rfl)
            | ((with_reducible apply wpQ_cmp (b := true)); rfl; rfl; rfl; (first | rfl | assumption | (simp only [cmpB, decide_eq_true_eq, decide_eq_false_iff_not, beq_iff_eq, bne_iff_ne, ne_eq, beq_eq_false_iff_ne, bne_eq_false_iff_eq, gt_iff_lt, ge_iff_le]; omega) | (simp; omega)); rfl)
            | ((with_reducible apply wpQ_cmp (b := false)); rfl; rfl; rfl; (first | rfl | assumption | (simp only [cmpB, decide_eq_true_eq, decide_eq_false_iff_not, beq_iff_eq, bne_iff_ne, ne_eq, beq_eq_false_iff_ne, bne_eq_false_iff_eq, gt_iff_lt, ge_iff_le]; omega) | (simp; omega)); rfl)
            | ((with_reducible apply wpQ_cmp); rfl; rfl; rfl; rfl; rfl)
            | ((with_reducible apply wpQ_arith); rfl; rfl; rfl; (exact IntWalk.i64_in _ (by (try simp only [arithI]); omega)); rfl)); (try simp only [if_true, if_false, Bool.false_eq_true, arithI, Act.put, Act.eval, List.setIfInBounds_toArray, List.set_cons_succ, List.set_cons_zero, Array.getD_eq_getD_getElem?, List.getElem?_toArray, List.getElem?_cons_succ, List.getElem?_cons_zero, Option.getD_some]))
          refine wpQuiet_nil ?_
          intro wq hq_
          have HQ := hid hq_
          clear hq_
          clear HH
          have HH := HQ
          clear HQ
          go_wp2_with (first
            | ((first
                | ((with_reducible apply wpL_skip); rfl; skip)
                | ((with_reducible apply wpL_nilCheck); rfl; rfl)
                | ((with_reducible apply wpL_loadArr (t := 34) kA34 HH.out); rfl; (first | exact .here | exact .there .here | exact .there (.there .here) | exact .there (.there (.there .here)) | exact .there (.there (.there (.there .here))) | exact .there (.there (.there (.there (.there .here)))) | exact .there (.there (.there (.there (.there (.there .here))))) | exact .there (.there (.there (.there (.there (.there (.there .here))))))); rfl)
                | ((with_reducible apply wpL_loadC (t := 34) kA34 HH.out); rfl; (first | exact .here | exact .there .here | exact .there (.there .here) | exact .there (.there (.there .here)) | exact .there (.there (.there (.there .here))) | exact .there (.there (.there (.there (.there .here)))) | exact .there (.there (.there (.there (.there (.there .here))))) | exact .there (.there (.there (.there (.there (.there (.there .here))))))); (first | rfl | exact Arr.len _ | (simp; done)); rfl)
                | ((with_reducible apply wpL_loadArr (t := 41) kA41 HH.out); rfl; (first | exact .here | exact .there .here | exact .there (.there .here) | exact .there (.there (.there .here)) | exact .there (.there (.there (.there .here))) | exact .there (.there (.there (.there (.there .here)))) | exact .there (.there (.there (.there (.there (.there .here))))) | exact .there (.there (.there (.there (.there (.there (.there .here))))))); rfl)
                | ((with_reducible apply wpL_loadC (t := 41) kA41 HH.out); rfl; (first | exact .here | exact .there .here | exact .there (.there .here) | exact .there (.there (.there .here)) | exact .there (.there (.there (.there .here))) | exact .there (.there (.there (.there (.there .here)))) | exact .there (.there (.there (.there (.there (.there .here))))) | exact .there (.there (.there (.there (.there (.there (.there .here))))))); (first | rfl | exact Arr.len _ | (simp; done)); rfl)
                | ((with_reducible apply wpL_len (t := 30) Try.underlying30); rfl; rfl)
                | ((with_reducible apply wpL_len (t := 46) Try.underlying46); rfl; rfl)
                | ((with_reducible apply wpL_move); rfl; rfl)
                | ((with_reducible apply wpL_assign); rfl; rfl)
                | ((with_reducible apply wpL_pick); rfl; rfl; rfl)
                | ((with_reducible apply wpL_not); rfl; rfl)
                | ((with_reducible apply wpL_cmp (b := true)); rfl; rfl; rfl; (first | rfl | assumption | (simp only [cmpB, decide_eq_true_eq, decide_eq_false_iff_not, beq_iff_eq, bne_iff_ne, ne_eq, beq_eq_false_iff_ne, bne_eq_false_iff_eq, gt_iff_lt, ge_iff_le]; omega) | (simp; omega)); rfl)
                | ((with_reducible apply wpL_cmp (b := false)); rfl; rfl; rfl; (first | rfl | assumption | (simp only [cmpB, decide_eq_true_eq, decide_eq_false_iff_not, beq_iff_eq, bne_iff_ne, ne_eq, beq_eq_false_iff_ne, bne_eq_false_iff_eq, gt_iff_lt, ge_iff_le]; omega) | (simp; omega)); rfl)
                | ((with_reducible apply wpL_cmp); rfl; rfl; rfl; rfl; rfl)
                | ((with_reducible apply wpL_arith); rfl; rfl; rfl; (exact IntWalk.i64_in _ (by (try simp only [arithI]); omega)); rfl)); (try simp only [arithI, Act.put, Act.eval, List.setIfInBounds_toArray, List.set_cons_succ, List.set_cons_zero, Array.getD_eq_getD_getElem?, List.getElem?_toArray, List.getElem?_cons_succ, List.getElem?_cons_zero, Option.getD_some])))
          go_ret
          exact RetB.mk HNE.out.symm HH.out.below
      · obtain rfl : k = l.length := by omega
        have HE := hid (show (l == m) = true by
          have e := HT.out
          rw [List.take_length, HL.out, List.take_length] at e
          rw [e]; simp)
        go_wp2_with (first
          | ((first
              | ((with_reducible apply wpL_skip); rfl; skip)
              | ((with_reducible apply wpL_nilCheck); rfl; rfl)
              | ((with_reducible apply wpL_loadArr (t := 34) kA34 HH.out); rfl; (first | exact .here | exact .there .here | exact .there (.there .here) | exact .there (.there (.there .here)) | exact .there (.there (.there (.there .here))) | exact .there (.there (.there (.there (.there .here)))) | exact .there (.there (.there (.there (.there (.there .here))))) | exact .there (.there (.there (.there (.there (.there (.there .here))))))); rfl)
              | ((with_reducible apply wpL_loadC (t := 34) kA34 HH.out); rfl; (first | exact .here | exact .there .here | exact .there (.there .here) | exact .there (.there (.there .here)) | exact .there (.there (.there (.there .here))) | exact .there (.there (.there (.there (.there .here)))) | exact .there (.there (.there (.there (.there (.there .here))))) | exact .there (.there (.there (.there (.there (.there (.there .here))))))); (first | rfl | exact Arr.len _ | (simp; done)); rfl)
              | ((with_reducible apply wpL_loadArr (t := 41) kA41 HH.out); rfl; (first | exact .here | exact .there .here | exact .there (.there .here) | exact .there (.there (.there .here)) | exact .there (.there (.there (.there .here))) | exact .there (.there (.there (.there (.there .here)))) | exact .there (.there (.there (.there (.there (.there .here))))) | exact .there (.there (.there (.there (.there (.there (.there .here))))))); rfl)
              | ((with_reducible apply wpL_loadC (t := 41) kA41 HH.out); rfl; (first | exact .here | exact .there .here | exact .there (.there .here) | exact .there (.there (.there .here)) | exact .there (.there (.there (.there .here))) | exact .there (.there (.there (.there (.there .here)))) | exact .there (.there (.there (.there (.there (.there .here))))) | exact .there (.there (.there (.there (.there (.there (.there .here))))))); (first | rfl | exact Arr.len _ | (simp; done)); rfl)
              | ((with_reducible apply wpL_len (t := 30) Try.underlying30); rfl; rfl)
              | ((with_reducible apply wpL_len (t := 46) Try.underlying46); rfl; rfl)
              | ((with_reducible apply wpL_move); rfl; rfl)
              | ((with_reducible apply wpL_assign); rfl; rfl)
              | ((with_reducible apply wpL_pick); rfl; rfl; rfl)
              | ((with_reducible apply wpL_not); rfl; rfl)
              | ((with_reducible apply wpL_cmp (b := true)); rfl; rfl; rfl; (first | rfl | assumption | (simp only [cmpB, decide_eq_true_eq, decide_eq_false_iff_not, beq_iff_eq, bne_iff_ne, ne_eq, beq_eq_false_iff_ne, bne_eq_false_iff_eq, gt_iff_lt, ge_iff_le]; omega) | (simp; omega)); rfl)
              | ((with_reducible apply wpL_cmp (b := false)); rfl; rfl; rfl; (first | rfl | assumption | (simp only [cmpB, decide_eq_true_eq, decide_eq_false_iff_not, beq_iff_eq, bne_iff_ne, ne_eq, beq_eq_false_iff_ne, bne_eq_false_iff_eq, gt_iff_lt, ge_iff_le]; omega) | (simp; omega)); rfl)
              | ((with_reducible apply wpL_cmp); rfl; rfl; rfl; rfl; rfl)
              | ((with_reducible apply wpL_arith); rfl; rfl; rfl; (exact IntWalk.i64_in _ (by (try simp only [arithI]); omega)); rfl)); (try simp only [arithI, Act.put, Act.eval, List.setIfInBounds_toArray, List.set_cons_succ, List.set_cons_zero, Array.getD_eq_getD_getElem?, List.getElem?_toArray, List.getElem?_cons_succ, List.getElem?_cons_zero, Option.getD_some])))
        go_ret
        exact RetB.mk HE.out.symm HH.out.below
  · have hb : ((l.length : Int) != (m.length : Int)) = true := by simp; omega
    have HE := hid (show (l == m) = false by
      simp only [beq_eq_false_iff_ne]
      intro e
      exact hlen (by rw [e]))
    clear hlen
    go_enter Try.func28, Try.ntmps28
    go_wp2_with (first
      | ((first
          | ((with_reducible apply wpL_skip); rfl; skip)
          | ((with_reducible apply wpL_nilCheck); rfl; rfl)
          | ((with_reducible apply wpL_loadArr (t := 34) kA34 HH.out); rfl; (first | exact .here | exact .there .here | exact .there (.there .here) | exact .there (.there (.there .here)) | exact .there (.there (.there (.there .here))) | exact .there (.there (.there (.there (.there .here)))) | exact .there (.there (.there (.there (.there (.there .here))))) | exact .there (.there (.there (.there (.there (.there (.there .here))))))); rfl)
          | ((with_reducible apply wpL_loadC (t := 34) kA34 HH.out); rfl; (first | exact .here | exact .there .here | exact .there (.there .here) | exact .there (.there (.there .here)) | exact .there (.there (.there (.there .here))) | exact .there (.there (.there (.there (.there .here)))) | exact .there (.there (.there (.there (.there (.there .here))))) | exact .there (.there (.there (.there (.there (.there (.there .here))))))); (first | rfl | exact Arr.len _ | (simp; done)); rfl)
          | ((with_reducible apply wpL_loadArr (t := 41) kA41 HH.out); rfl; (first | exact .here | exact .there .here | exact .there (.there .here) | exact .there (.there (.there .here)) | exact .there (.there (.there (.there .here))) | exact .there (.there (.there (.there (.there .here)))) | exact .there (.there (.there (.there (.there (.there .here))))) | exact .there (.there (.there (.there (.there (.there (.there .here))))))); rfl)
          | ((with_reducible apply wpL_loadC (t := 41) kA41 HH.out); rfl; (first | exact .here | exact .there .here | exact .there (.there .here) | exact .there (.there (.there .here)) | exact .there (.there (.there (.there .here))) | exact .there (.there (.there (.there (.there .here)))) | exact .there (.there (.there (.there (.there (.there .here))))) | exact .there (.there (.there (.there (.there (.there (.there .here))))))); (first | rfl | exact Arr.len _ | (simp; done)); rfl)
          | ((with_reducible apply wpL_len (t := 30) Try.underlying30); rfl; rfl)
          | ((with_reducible apply wpL_len (t := 46) Try.underlying46); rfl; rfl)
          | ((with_reducible apply wpL_move); rfl; rfl)
          | ((with_reducible apply wpL_assign); rfl; rfl)
          | ((with_reducible apply wpL_pick); rfl; rfl; rfl)
          | ((with_reducible apply wpL_not); rfl; rfl)
          | ((with_reducible apply wpL_cmp (b := true)); rfl; rfl; rfl; (first | rfl | assumption | (simp only [cmpB, decide_eq_true_eq, decide_eq_false_iff_not, beq_iff_eq, bne_iff_ne, ne_eq, beq_eq_false_iff_ne, bne_eq_false_iff_eq, gt_iff_lt, ge_iff_le]; omega) | (simp; omega)); rfl)
          | ((with_reducible apply wpL_cmp (b := false)); rfl; rfl; rfl; (first | rfl | assumption | (simp only [cmpB, decide_eq_true_eq, decide_eq_false_iff_not, beq_iff_eq, bne_iff_ne, ne_eq, beq_eq_false_iff_ne, bne_eq_false_iff_eq, gt_iff_lt, ge_iff_le]; omega) | (simp; omega)); rfl)
          | ((with_reducible apply wpL_cmp); rfl; rfl; rfl; rfl; rfl)
          | ((with_reducible apply wpL_arith); rfl; rfl; rfl; (exact IntWalk.i64_in _ (by (try simp only [arithI]); omega)); rfl)); (try simp only [arithI, Act.put, Act.eval, List.setIfInBounds_toArray, List.set_cons_succ, List.set_cons_zero, Array.getD_eq_getD_getElem?, List.getElem?_toArray, List.getElem?_cons_succ, List.getElem?_cons_zero, Option.getD_some])))
    go_ret
    exact RetB.mk HE.out.symm HH.out.below
end Go.Proofs.Ytgkfopodhikckaa

/- Height and Node of the reference. Condition: at most 10^9 nodes. -/
namespace Go.Proofs.Ytgkfopodhikckaa
open Go.RowKit
attribute [local irreducible] wpQuiet wpList
def heightN (n : Nat) : Nat := if checkC n = 0 then Nat.log2 n else 0
def RetH (w : World) (h : Nat) (c : Int) (e : Ending) (w' : World) : Prop := e = .returned (.tuple #[.int .i64 (h : Int), .int .i64 c]) ∧ Below w.heap.size w w'
theorem RetH.mk {w w' : World} {h k : Nat} {b c : Int} {q : Int} (hq : q = (k : Int)) (hk : k = h) (hb : b = c) (hw : Below w.heap.size w w') : RetH w h c (.returned (.tuple #[.int .i64 q, .int .i64 b])) w' := ⟨by rw [hq, hk, hb], hw⟩
theorem pow_check : ((List.range 1025).all fun n => (List.range 11).all fun h => n == 0 || !(decide (n ≤ 2 ^ h)) || !(h == 0 || decide (2 ^ (h - 1) < n)) || ((n &&& (n - 1) == 0) == (2 ^ h == n))) = true := by decide +kernel
theorem pow_check' {n h : Nat} (hn : n ≤ 1024) (hh : h ≤ 10) (h0 : n ≠ 0) (h1 : n ≤ 2 ^ h) (h2 : h = 0 ∨ 2 ^ (h - 1) < n) : (n &&& (n - 1) = 0 ↔ 2 ^ h = n) := by
  have := List.all_eq_true.1 (List.all_eq_true.1 pow_check n (by simp; omega)) h (by simp; omega)
  simp only [Bool.or_eq_true, Bool.not_eq_true', beq_iff_eq, decide_eq_false_iff_not, decide_eq_true_eq, Bool.or_eq_false_iff] at this
  rcases this with ((h3 | h3) | h3) | h3
  · exact absurd h3 h0
  · exact absurd h1 h3
  · exact absurd h2 (by intro h4; rcases h4 with h4 | h4 <;> simp_all)
  · have h4 := Bool.eq_iff_iff.1 h3
    simpa using h4
def HgtRel (w : World) (n : Nat) (i : Value) (wr : World) : Prop :=
  ∃ k : Nat, k ≤ 10 ∧ i = .int .i64 k ∧ (k = 0 ∨ 2 ^ (k - 1) < n) ∧ Holds w [] [] [] wr
set_option maxRecDepth 100000 in
set_option maxHeartbeats 2000000 in
theorem height_any (w : World) (n : Nat) (hn : n ≤ 1000000000) : Calls Try.prog 61 #[.int .i64 n] w (RetH w (heightN n) (checkC n)) := by
  have HH := hid (Holds.init w)
  by_cases h0 : n = 0
  · have e : checkC n = 1 := by unfold checkC; rw [if_pos h0]
    have e2 : heightN n = 0 := by unfold heightN; rw [e]; rfl
    rw [e, e2]
    clear e e2
    go_enter Try.func61, Try.ntmps61
    go_wp2_with (first
      | ((first
          | ((with_reducible apply wpL_skip); rfl; skip)
          | ((with_reducible apply wpL_nilCheck); rfl; rfl)
          | ((with_reducible apply wpL_move); rfl; rfl)
          | ((with_reducible apply wpL_assign); rfl; rfl)
          | ((with_reducible apply wpL_pick); rfl; rfl; rfl)
          | ((with_reducible apply wpL_not); rfl; rfl)
          | ((with_reducible apply wpL_cmp (b := true)); rfl; rfl; rfl; (first | rfl | assumption | (simp only [cmpB, decide_eq_true_eq, decide_eq_false_iff_not, beq_iff_eq, bne_iff_ne, ne_eq, beq_eq_false_iff_ne, bne_eq_false_iff_eq, gt_iff_lt, ge_iff_le]; omega) | (simp; omega)); rfl)
          | ((with_reducible apply wpL_cmp (b := false)); rfl; rfl; rfl; (first | rfl | assumption | (simp only [cmpB, decide_eq_true_eq, decide_eq_false_iff_not, beq_iff_eq, bne_iff_ne, ne_eq, beq_eq_false_iff_ne, bne_eq_false_iff_eq, gt_iff_lt, ge_iff_le]; omega) | (simp; omega)); rfl)
          | ((with_reducible apply wpL_cmp); rfl; rfl; rfl; rfl; rfl)
          | ((with_reducible apply wpL_arith); rfl; rfl; rfl; (exact IntWalk.i64_in _ (by (try simp only [arithI]); omega)); rfl)); (try simp only [arithI, Act.put, Act.eval, List.setIfInBounds_toArray, List.set_cons_succ, List.set_cons_zero, Array.getD_eq_getD_getElem?, List.getElem?_toArray, List.getElem?_cons_succ, List.getElem?_cons_zero, Option.getD_some])))
    go_ret2
    exact RetH.mk rfl rfl rfl HH.out.below
  · by_cases h1 : 1024 < n
    · have e : checkC n = 9 := by unfold checkC; rw [if_neg h0, if_pos h1]
      have e2 : heightN n = 0 := by unfold heightN; rw [e]; rfl
      rw [e, e2]
      clear e e2
      go_enter Try.func61, Try.ntmps61
      go_wp2_with (first
        | ((first
            | ((with_reducible apply wpL_skip); rfl; skip)
            | ((with_reducible apply wpL_nilCheck); rfl; rfl)
            | ((with_reducible apply wpL_move); rfl; rfl)
            | ((with_reducible apply wpL_assign); rfl; rfl)
            | ((with_reducible apply wpL_pick); rfl; rfl; rfl)
            | ((with_reducible apply wpL_not); rfl; rfl)
            | ((with_reducible apply wpL_cmp (b := true)); rfl; rfl; rfl; (first | rfl | assumption | (simp only [cmpB, decide_eq_true_eq, decide_eq_false_iff_not, beq_iff_eq, bne_iff_ne, ne_eq, beq_eq_false_iff_ne, bne_eq_false_iff_eq, gt_iff_lt, ge_iff_le]; omega) | (simp; omega)); rfl)
            | ((with_reducible apply wpL_cmp (b := false)); rfl; rfl; rfl; (first | rfl | assumption | (simp only [cmpB, decide_eq_true_eq, decide_eq_false_iff_not, beq_iff_eq, bne_iff_ne, ne_eq, beq_eq_false_iff_ne, bne_eq_false_iff_eq, gt_iff_lt, ge_iff_le]; omega) | (simp; omega)); rfl)
            | ((with_reducible apply wpL_cmp); rfl; rfl; rfl; rfl; rfl)
            | ((with_reducible apply wpL_arith); rfl; rfl; rfl; (exact IntWalk.i64_in _ (by (try simp only [arithI]); omega)); rfl)); (try simp only [arithI, Act.put, Act.eval, List.setIfInBounds_toArray, List.set_cons_succ, List.set_cons_zero, Array.getD_eq_getD_getElem?, List.getElem?_toArray, List.getElem?_cons_succ, List.getElem?_cons_zero, Option.getD_some])))
      go_ret2
      exact RetH.mk rfl rfl rfl HH.out.below
    · go_enter Try.func61, Try.ntmps61
      go_wp2_with (first
        | ((first
            | ((with_reducible apply wpL_skip); rfl; skip)
            | ((with_reducible apply wpL_nilCheck); rfl; rfl)
            | ((with_reducible apply wpL_move); rfl; rfl)
            | ((with_reducible apply wpL_assign); rfl; rfl)
            | ((with_reducible apply wpL_pick); rfl; rfl; rfl)
            | ((with_reducible apply wpL_not); rfl; rfl)
            | ((with_reducible apply wpL_cmp (b := true)); rfl; rfl; rfl; (first | rfl | assumption | (simp only [cmpB, decide_eq_true_eq, decide_eq_false_iff_not, beq_iff_eq, bne_iff_ne, ne_eq, beq_eq_false_iff_ne, bne_eq_false_iff_eq, gt_iff_lt, ge_iff_le]; omega) | (simp; omega)); rfl)
            | ((with_reducible apply wpL_cmp (b := false)); rfl; rfl; rfl; (first | rfl | assumption | (simp only [cmpB, decide_eq_true_eq, decide_eq_false_iff_not, beq_iff_eq, bne_iff_ne, ne_eq, beq_eq_false_iff_ne, bne_eq_false_iff_eq, gt_iff_lt, ge_iff_le]; omega) | (simp; omega)); rfl)
            | ((with_reducible apply wpL_cmp); rfl; rfl; rfl; rfl; rfl)
            | ((with_reducible apply wpL_arith); rfl; rfl; rfl; (exact IntWalk.i64_in _ (by (try simp only [arithI]); omega)); rfl)); (try simp only [arithI, Act.put, Act.eval, List.setIfInBounds_toArray, List.set_cons_succ, List.set_cons_zero, Array.getD_eq_getD_getElem?, List.getElem?_toArray, List.getElem?_cons_succ, List.getElem?_cons_zero, Option.getD_some])))
      go_loopw [4] (HgtRel w n) (fun i _ => 11 - (intOf i).toNat)
      case atStart => exact ⟨0, by omega, rfl, .inl rfl, HH.out⟩
      case round =>
        obtain ⟨k, hk, rfl, hlow, hr⟩ := hrel
        clear HH
        have HH := hid hr
        have HLOW := hid hlow
        clear hr hlow
        obtain ⟨p, hp⟩ : ∃ p, 2 ^ k = p := ⟨_, rfl⟩
        have HP := hid hp
        have HP1 := hid (show 1 * 2 ^ k = p by rw [Nat.one_mul, hp])
        have hp10 : p ≤ 1024 := by rw [← hp]; exact Nat.le_trans (Nat.pow_le_pow_right (by decide) hk) (by decide)
        have HW := hid (show IntKind.i64.wrap ((p : Nat) : Int) = (p : Int) from IntWalk.i64_in _ (by omega))
        clear hp
        by_cases hlt : p < n
        · have hk9 : k < 10 := by
            rcases Nat.lt_or_ge k 10 with h | h
            · exact h
            · exfalso
              obtain rfl : k = 10 := by omega
              have := HP.out
              omega
          go_wp2_with (first
            | ((first
                | ((with_reducible apply wpL_skip); rfl; skip)
                | ((with_reducible apply wpL_shlP (m := 1) (k := k) (r := p)); rfl; rfl; rfl; rfl; (exact (by omega)); (exact HP1.out); (exact HW.out); rfl)
                | ((with_reducible apply wpL_nilCheck); rfl; rfl)
                | ((with_reducible apply wpL_move); rfl; rfl)
                | ((with_reducible apply wpL_assign); rfl; rfl)
                | ((with_reducible apply wpL_pick); rfl; rfl; rfl)
                | ((with_reducible apply wpL_not); rfl; rfl)
                | ((with_reducible apply wpL_cmp (b := true)); rfl; rfl; rfl; (first | rfl | assumption | (simp only [cmpB, decide_eq_true_eq, decide_eq_false_iff_not, beq_iff_eq, bne_iff_ne, ne_eq, beq_eq_false_iff_ne, bne_eq_false_iff_eq, gt_iff_lt, ge_iff_le]; omega) | (simp; omega)); rfl)
                | ((with_reducible apply wpL_cmp (b := false)); rfl; rfl; rfl; (first | rfl | assumption | (simp only [cmpB, decide_eq_true_eq, decide_eq_false_iff_not, beq_iff_eq, bne_iff_ne, ne_eq, beq_eq_false_iff_ne, bne_eq_false_iff_eq, gt_iff_lt, ge_iff_le]; omega) | (simp; omega)); rfl)
                | ((with_reducible apply wpL_cmp); rfl; rfl; rfl; rfl; rfl)
                | ((with_reducible apply wpL_arith); rfl; rfl; rfl; (exact IntWalk.i64_in _ (by (try simp only [arithI]); omega)); rfl)); (try simp only [arithI, Act.put, Act.eval, List.setIfInBounds_toArray, List.set_cons_succ, List.set_cons_zero, Array.getD_eq_getD_getElem?, List.getElem?_toArray, List.getElem?_cons_succ, List.getElem?_cons_zero, Option.getD_some])))
          go_roundw
          case rel => exact ⟨k + 1, by omega, by go_num, .inr (by rw [Nat.add_sub_cancel, HP.out]; exact hlt), HH.out⟩
          case measure => simp [intOf]; omega
        · have hchk := pow_check' (n := n) (h := k) (by omega) hk h0 (by rw [HP.out]; omega) HLOW.out
          rw [HP.out] at hchk
          by_cases hpn : p = n
          · have e : checkC n = 0 := by unfold checkC; rw [if_neg h0, if_neg h1, if_pos (hchk.2 hpn)]
            have e2 : k = heightN n := by unfold heightN; rw [if_pos e, ← hpn, ← HP.out, Nat.log2_two_pow]
            have E := hid e
            have E2 := hid e2
            clear e e2 hchk
            go_wp2_with (first
              | ((first
                  | ((with_reducible apply wpL_skip); rfl; skip)
                  | ((with_reducible apply wpL_shlP (m := 1) (k := k) (r := p)); rfl; rfl; rfl; rfl; (exact (by omega)); (exact HP1.out); (exact HW.out); rfl)
                  | ((with_reducible apply wpL_nilCheck); rfl; rfl)
                  | ((with_reducible apply wpL_move); rfl; rfl)
                  | ((with_reducible apply wpL_assign); rfl; rfl)
                  | ((with_reducible apply wpL_pick); rfl; rfl; rfl)
                  | ((with_reducible apply wpL_not); rfl; rfl)
                  | ((with_reducible apply wpL_cmp (b := true)); rfl; rfl; rfl; (first | rfl | assumption | (simp only [cmpB, decide_eq_true_eq, decide_eq_false_iff_not, beq_iff_eq, bne_iff_ne, ne_eq, beq_eq_false_iff_ne, bne_eq_false_iff_eq, gt_iff_lt, ge_iff_le]; omega) | (simp; omega)); rfl)
                  | ((with_reducible apply wpL_cmp (b := false)); rfl; rfl; rfl; (first | rfl | assumption | (simp only [cmpB, decide_eq_true_eq, decide_eq_false_iff_not, beq_iff_eq, bne_iff_ne, ne_eq, beq_eq_false_iff_ne, bne_eq_false_iff_eq, gt_iff_lt, ge_iff_le]; omega) | (simp; omega)); rfl)
                  | ((with_reducible apply wpL_cmp); rfl; rfl; rfl; rfl; rfl)
                  | ((with_reducible apply wpL_arith); rfl; rfl; rfl; (exact IntWalk.i64_in _ (by (try simp only [arithI]); omega)); rfl)); (try simp only [arithI, Act.put, Act.eval, List.setIfInBounds_toArray, List.set_cons_succ, List.set_cons_zero, Array.getD_eq_getD_getElem?, List.getElem?_toArray, List.getElem?_cons_succ, List.getElem?_cons_zero, Option.getD_some])))
            go_ret2
            exact RetH.mk rfl E2.out E.out.symm HH.out.below
          · have e : checkC n = 2 := by unfold checkC; rw [if_neg h0, if_neg h1, if_neg (fun h => hpn (hchk.1 h))]
            have e2 : 0 = heightN n := by unfold heightN; rw [e]; rfl
            have E := hid e
            have E2 := hid e2
            clear e e2 hchk
            go_wp2_with (first
              | ((first
                  | ((with_reducible apply wpL_skip); rfl; skip)
                  | ((with_reducible apply wpL_shlP (m := 1) (k := k) (r := p)); rfl; rfl; rfl; rfl; (exact (by omega)); (exact HP1.out); (exact HW.out); rfl)
                  | ((with_reducible apply wpL_nilCheck); rfl; rfl)
                  | ((with_reducible apply wpL_move); rfl; rfl)
                  | ((with_reducible apply wpL_assign); rfl; rfl)
                  | ((with_reducible apply wpL_pick); rfl; rfl; rfl)
                  | ((with_reducible apply wpL_not); rfl; rfl)
                  | ((with_reducible apply wpL_cmp (b := true)); rfl; rfl; rfl; (first | rfl | assumption | (simp only [cmpB, decide_eq_true_eq, decide_eq_false_iff_not, beq_iff_eq, bne_iff_ne, ne_eq, beq_eq_false_iff_ne, bne_eq_false_iff_eq, gt_iff_lt, ge_iff_le]; omega) | (simp; omega)); rfl)
                  | ((with_reducible apply wpL_cmp (b := false)); rfl; rfl; rfl; (first | rfl | assumption | (simp only [cmpB, decide_eq_true_eq, decide_eq_false_iff_not, beq_iff_eq, bne_iff_ne, ne_eq, beq_eq_false_iff_ne, bne_eq_false_iff_eq, gt_iff_lt, ge_iff_le]; omega) | (simp; omega)); rfl)
                  | ((with_reducible apply wpL_cmp); rfl; rfl; rfl; rfl; rfl)
                  | ((with_reducible apply wpL_arith); rfl; rfl; rfl; (exact IntWalk.i64_in _ (by (try simp only [arithI]); omega)); rfl)); (try simp only [arithI, Act.put, Act.eval, List.setIfInBounds_toArray, List.set_cons_succ, List.set_cons_zero, Array.getD_eq_getD_getElem?, List.getElem?_toArray, List.getElem?_cons_succ, List.getElem?_cons_zero, Option.getD_some])))
            go_ret2
            exact RetH.mk rfl E2.out E.out.symm HH.out.below
end Go.Proofs.Ytgkfopodhikckaa

/- Node and Root of the reference. Condition: at most 10^9 nodes. -/
namespace Go.Proofs.Ytgkfopodhikckaa
open Go.RowKit
attribute [local irreducible] wpQuiet wpList
theorem upL_half (lev : Nat) : ∀ l : List Nd, (upL lev l).length = l.length / 2
  | [] => rfl
  | [_] => by simp [upL]
  | x :: y :: r => by
    have := upL_half lev r
    simp only [upL, List.length_cons, this]
    omega
theorem levAt_le (l : List Nd) : ∀ k, (levAt l k).length ≤ l.length
  | 0 => Nat.le_refl _
  | k + 1 => by rw [levAt, upL_half]; have := levAt_le l k; omega
theorem levAt_join {l : List Nd} {lev k : Nat} (h : k < (levAt l (lev + 1)).length) : 2 * k + 1 < (levAt l lev).length ∧ (levAt l (lev + 1)).getD k Nd0 = joinN ((lev + 1 : Nat) : Int) ((levAt l lev).getD (2 * k) Nd0) ((levAt l lev).getD (2 * k + 1) Nd0) := by
  have h1 : 2 * k + 1 < (levAt l lev).length := by rw [levAt, upL_half] at h; omega
  refine ⟨h1, ?_⟩
  rw [levAt, List.getD_eq_getElem?_getD, upL_get _ _ _ h1]
  rfl
set_option maxRecDepth 100000 in
set_option maxHeartbeats 2000000 in
theorem nodeR_any (l : List Nd) (hn : l.length ≤ 1000000000) : ∀ (lev : Nat) (w : World) (v : Value) (k : Nat) (q p : Int), Arrs w v l → lev ≤ 100 → k < (levAt l lev).length → q = (lev : Int) → p = (k : Int) →
    Calls Try.prog 62 #[v, .int .i64 q, .int .i64 p] w (RetA w ((levAt l lev).getD k Nd0)) := by
  intro lev
  induction lev with
  | zero =>
    intro w v k q p hl _ hk hq hp
    subst hq hp
    obtain ⟨ao, cap, rfl, _⟩ := hl.shape
    have HL := hid hl
    have hkl : k < l.length := hk
    obtain ⟨ad, cap', e⟩ := hl.some (by omega)
    cases e
    clear hl hk
    obtain ⟨x, hx⟩ : ∃ x, (levAt l 0).getD k Nd0 = x := ⟨_, rfl⟩
    have hx' : l.getD k Nd0 = x := hx
    rw [hx]
    have HH := hid (Holds.init w)
    have HAR := hid (fun w1 g6 (h1 : Holds w [] [(g6, objC Nd0.cells 41)] [] w1) => get_as (show Arrs w1 (.slice (some ad) l.length cap) l from h1.sl HL.out) hkl (show l[k] = x by rw [← hx']; simp [hkl]))
    clear hx hx'
    go_enter Try.func62, Try.ntmps62
    go_wp2_with (first
      | ((first
          | ((with_reducible apply wpL_skip); rfl; skip)
          | ((with_reducible apply wpL_idx (j := k) kE30); rfl; rfl; rfl; (exact hkl); rfl)
          | ((with_reducible apply wpL_loadEl (v := x) kA41 (HAR.out _ _ HH.out)); rfl; rfl)
          | ((with_reducible apply wpL_storeC (t := 41) (vs := x.cells)); rfl; rfl; (exact kS41); (exact HH.out); (exact .here); (exact Arr.len _); (exact cells_one _); (exact Arr.len _); rfl; (intro w_ hq_; clear HH; have HH := hid hq_; clear hq_))
          | ((with_reducible apply wpL_nilCheck); rfl; rfl)
          | ((with_reducible apply wpL_loadArr (t := 41) kA41 HH.out); rfl; (first | exact .here | exact .there .here | exact .there (.there .here) | exact .there (.there (.there .here)) | exact .there (.there (.there (.there .here))) | exact .there (.there (.there (.there (.there .here)))) | exact .there (.there (.there (.there (.there (.there .here))))) | exact .there (.there (.there (.there (.there (.there (.there .here))))))); rfl)
          | ((with_reducible apply wpL_loadC (t := 41) kA41 HH.out); rfl; (first | exact .here | exact .there .here | exact .there (.there .here) | exact .there (.there (.there .here)) | exact .there (.there (.there (.there .here))) | exact .there (.there (.there (.there (.there .here)))) | exact .there (.there (.there (.there (.there (.there .here))))) | exact .there (.there (.there (.there (.there (.there (.there .here))))))); (first | rfl | exact Arr.len _ | (simp; done)); rfl)
          | ((with_reducible apply wpL_allocC (dst := some 6) kZ41 HH.out); rfl; (intro g6_ w_ hq_; (try simp only [List.set_cons_zero, List.set_cons_succ] at hq_); clear HH; have HH := hid hq_; clear hq_))
          | ((with_reducible apply wpL_storeArr (t := 41) kS41 HH.out); rfl; rfl; (first | exact .here | exact .there .here | exact .there (.there .here) | exact .there (.there (.there .here)) | exact .there (.there (.there (.there .here))) | exact .there (.there (.there (.there (.there .here)))) | exact .there (.there (.there (.there (.there (.there .here))))) | exact .there (.there (.there (.there (.there (.there (.there .here))))))); (first | rfl | exact Arr.len _ | (simp; done)); rfl; (intro w_ hq_; (try simp only [List.set_cons_zero, List.set_cons_succ] at hq_); clear HH; have HH := hid hq_; clear hq_))
          | ((with_reducible apply wpL_storeC (t := 41)); rfl; rfl; (exact kS41); (exact HH.out); (first | exact .here | exact .there .here | exact .there (.there .here) | exact .there (.there (.there .here)) | exact .there (.there (.there (.there .here))) | exact .there (.there (.there (.there (.there .here)))) | exact .there (.there (.there (.there (.there (.there .here))))) | exact .there (.there (.there (.there (.there (.there (.there .here))))))); (first | rfl | exact Arr.len _ | (simp; done)); (first | rfl | (intro u_ hu_; simp only [List.mem_cons, List.not_mem_nil, or_false] at hu_; rcases hu_ with rfl | hu_; rfl) | exact byt_cell1 _ | exact cells_one _ | exact wrd_one _ | exact flat_cell1 _); (first | rfl | exact Arr.len _ | (simp; done)); rfl; (intro w_ hq_; (try simp only [List.set_cons_zero, List.set_cons_succ] at hq_); clear HH; have HH := hid hq_; clear hq_))
          | ((with_reducible apply wpL_move); rfl; rfl)
          | ((with_reducible apply wpL_assign); rfl; rfl)
          | ((with_reducible apply wpL_pick); rfl; rfl; rfl)
          | ((with_reducible apply wpL_not); rfl; rfl)
          | ((with_reducible apply wpL_cmp (b := true)); rfl; rfl; rfl; (first | rfl | assumption | (simp only [cmpB, decide_eq_true_eq, decide_eq_false_iff_not, beq_iff_eq, bne_iff_ne, ne_eq, beq_eq_false_iff_ne, bne_eq_false_iff_eq, gt_iff_lt, ge_iff_le]; omega) | (simp; omega)); rfl)
          | ((with_reducible apply wpL_cmp (b := false)); rfl; rfl; rfl; (first | rfl | assumption | (simp only [cmpB, decide_eq_true_eq, decide_eq_false_iff_not, beq_iff_eq, bne_iff_ne, ne_eq, beq_eq_false_iff_ne, bne_eq_false_iff_eq, gt_iff_lt, ge_iff_le]; omega) | (simp; omega)); rfl)
          | ((with_reducible apply wpL_cmp); rfl; rfl; rfl; rfl; rfl)
          | ((with_reducible apply wpL_arith); rfl; rfl; rfl; (exact IntWalk.i64_in _ (by (try simp only [arithI]); omega)); rfl)); (try simp only [arithI, Act.put, Act.eval, List.setIfInBounds_toArray, List.set_cons_succ, List.set_cons_zero, Array.getD_eq_getD_getElem?, List.getElem?_toArray, List.getElem?_cons_succ, List.getElem?_cons_zero, Option.getD_some])))
    refine bodyPost_ret (res1 rfl (resC kA41 HH.out (by rfl) .here (Arr.len _))) rfl ?_
    exact ⟨rfl, HH.out.below⟩
  | succ lev ih =>
    intro w v k q p hl hlev hk hq hp
    subst hq hp
    obtain ⟨h2, hj⟩ := levAt_join hk
    have HIH := hid ih
    have hle := levAt_le l lev
    have h2k : 2 * k + 1 < 1000000000 := by omega
    have H2 := hid h2
    have HL := hid hl
    obtain ⟨x, hx⟩ : ∃ x, (levAt l lev).getD (2 * k) Nd0 = x := ⟨_, rfl⟩
    obtain ⟨y, hy⟩ : ∃ y, (levAt l lev).getD (2 * k + 1) Nd0 = y := ⟨_, rfl⟩
    obtain ⟨d, hd⟩ : ∃ d, joinN ((lev + 1 : Nat) : Int) x y = d := ⟨_, rfl⟩
    rw [hj, hx, hy, hd]
    have HX := hid hx
    have HY := hid hy
    have HD := hid (show joinN ((lev : Int) + 1) x y = d by rw [← hd]; rfl)
    obtain ⟨ao, cap, rfl, _⟩ := hl.shape
    have HH := hid (Holds.init w)
    clear ih hl h2 hj hx hy hd hk hle
    go_enter Try.func62, Try.ntmps62
    go_wp2_with (first
      | ((first
          | ((with_reducible apply wpL_skip); rfl; skip)
          | (go_at_call 62; (have hcall_ := hid (HIH.out _ (.slice ao l.length cap) (2 * k) (lev : Int) (2 * (k : Int)) (HH.out.sl HL.out) (by omega) (by have := H2.out; omega) rfl (by omega))); (with_reducible refine hcall_.out.mono ?_); clear hcall_; rw [HX.out]; rintro e_ w2_ ⟨rfl, hb_⟩; (have hq_ := HH.out.grow hb_); clear HH; have HH := hid hq_; clear hq_ hb_)
          | (go_at_call 62; (have hcall_ := hid (HIH.out _ (.slice ao l.length cap) (2 * k + 1) (lev : Int) (2 * (k : Int) + 1) (HH.out.sl HL.out) (by omega) (by have := H2.out; omega) rfl (by omega))); (with_reducible refine hcall_.out.mono ?_); clear hcall_; rw [HY.out]; rintro e_ w2_ ⟨rfl, hb_⟩; (have hq_ := HH.out.grow hb_); clear HH; have HH := hid hq_; clear hq_ hb_)
          | (go_at_call 47; (with_reducible refine (joinR_any _ ((lev : Int) + 1) x y).mono ?_); rw [HD.out]; rintro e_ w2_ ⟨rfl, hb_⟩; (have hq_ := HH.out.grow hb_); clear HH; have HH := hid hq_; clear hq_ hb_)
          | ((with_reducible apply wpL_storeC (t := 41) (vs := d.cells)); rfl; rfl; (exact kS41); (exact HH.out); (exact .here); (exact Arr.len _); (exact cells_one _); (exact Arr.len _); rfl; (intro w_ hq_; clear HH; have HH := hid hq_; clear hq_))
          | ((with_reducible apply wpL_nilCheck); rfl; rfl)
          | ((with_reducible apply wpL_loadArr (t := 41) kA41 HH.out); rfl; (first | exact .here | exact .there .here | exact .there (.there .here) | exact .there (.there (.there .here)) | exact .there (.there (.there (.there .here))) | exact .there (.there (.there (.there (.there .here)))) | exact .there (.there (.there (.there (.there (.there .here))))) | exact .there (.there (.there (.there (.there (.there (.there .here))))))); rfl)
          | ((with_reducible apply wpL_loadC (t := 41) kA41 HH.out); rfl; (first | exact .here | exact .there .here | exact .there (.there .here) | exact .there (.there (.there .here)) | exact .there (.there (.there (.there .here))) | exact .there (.there (.there (.there (.there .here)))) | exact .there (.there (.there (.there (.there (.there .here))))) | exact .there (.there (.there (.there (.there (.there (.there .here))))))); (first | rfl | exact Arr.len _ | (simp; done)); rfl)
          | ((with_reducible apply wpL_allocC (dst := some 6) kZ41 HH.out); rfl; (intro g6_ w_ hq_; (try simp only [List.set_cons_zero, List.set_cons_succ] at hq_); clear HH; have HH := hid hq_; clear hq_))
          | ((with_reducible apply wpL_storeArr (t := 41) kS41 HH.out); rfl; rfl; (first | exact .here | exact .there .here | exact .there (.there .here) | exact .there (.there (.there .here)) | exact .there (.there (.there (.there .here))) | exact .there (.there (.there (.there (.there .here)))) | exact .there (.there (.there (.there (.there (.there .here))))) | exact .there (.there (.there (.there (.there (.there (.there .here))))))); (first | rfl | exact Arr.len _ | (simp; done)); rfl; (intro w_ hq_; (try simp only [List.set_cons_zero, List.set_cons_succ] at hq_); clear HH; have HH := hid hq_; clear hq_))
          | ((with_reducible apply wpL_storeC (t := 41)); rfl; rfl; (exact kS41); (exact HH.out); (first | exact .here | exact .there .here | exact .there (.there .here) | exact .there (.there (.there .here)) | exact .there (.there (.there (.there .here))) | exact .there (.there (.there (.there (.there .here)))) | exact .there (.there (.there (.there (.there (.there .here))))) | exact .there (.there (.there (.there (.there (.there (.there .here))))))); (first | rfl | exact Arr.len _ | (simp; done)); (first | rfl | (intro u_ hu_; simp only [List.mem_cons, List.not_mem_nil, or_false] at hu_; rcases hu_ with rfl | hu_; rfl) | exact byt_cell1 _ | exact cells_one _ | exact wrd_one _ | exact flat_cell1 _); (first | rfl | exact Arr.len _ | (simp; done)); rfl; (intro w_ hq_; (try simp only [List.set_cons_zero, List.set_cons_succ] at hq_); clear HH; have HH := hid hq_; clear hq_))
          | ((with_reducible apply wpL_move); rfl; rfl)
          | ((with_reducible apply wpL_assign); rfl; rfl)
          | ((with_reducible apply wpL_pick); rfl; rfl; rfl)
          | ((with_reducible apply wpL_not); rfl; rfl)
          | ((with_reducible apply wpL_cmp (b := true)); rfl; rfl; rfl; (first | rfl | assumption | (simp only [cmpB, decide_eq_true_eq, decide_eq_false_iff_not, beq_iff_eq, bne_iff_ne, ne_eq, beq_eq_false_iff_ne, bne_eq_false_iff_eq, gt_iff_lt, ge_iff_le]; omega) | (simp; omega)); rfl)
          | ((with_reducible apply wpL_cmp (b := false)); rfl; rfl; rfl; (first | rfl | assumption | (simp only [cmpB, decide_eq_true_eq, decide_eq_false_iff_not, beq_iff_eq, bne_iff_ne, ne_eq, beq_eq_false_iff_ne, bne_eq_false_iff_eq, gt_iff_lt, ge_iff_le]; omega) | (simp; omega)); rfl)
          | ((with_reducible apply wpL_cmp); rfl; rfl; rfl; rfl; rfl)
          | ((with_reducible apply wpL_arith); rfl; rfl; rfl; (exact IntWalk.i64_in _ (by (try simp only [arithI]); omega)); rfl)); (try simp only [arithI, Act.put, Act.eval, List.setIfInBounds_toArray, List.set_cons_succ, List.set_cons_zero, Array.getD_eq_getD_getElem?, List.getElem?_toArray, List.getElem?_cons_succ, List.getElem?_cons_zero, Option.getD_some])))
    refine bodyPost_ret (res1 rfl (resC kA41 HH.out (by rfl) .here (Arr.len _))) rfl ?_
    exact ⟨rfl, HH.out.below⟩
end Go.Proofs.Ytgkfopodhikckaa

/- Root of the reference. Condition: at most 10^9 nodes. -/
namespace Go.Proofs.Ytgkfopodhikckaa
open Go.RowKit
attribute [local irreducible] wpQuiet wpList
theorem BZ41 (w : World) : (Instr.build 41 #[]).run Try.prog w = .ok Nd0.val w := by kernel_rfl
set_option maxRecDepth 100000 in
set_option maxHeartbeats 4000000 in
theorem rootR_any (w : World) (v : Value) (l : List Nd) (hl : Arrs w v l) (hn : l.length ≤ 1000000000) : Calls Try.prog 26 #[v] w (RetR w (rootV l) (checkC l.length)) := by
  obtain ⟨ao, cap, rfl, _⟩ := hl.shape
  have HL := hid hl
  have HN := hid hn
  clear hl
  have HH := hid (Holds.init w)
  obtain ⟨c, hc⟩ : ∃ c, checkC l.length = c := ⟨_, rfl⟩
  have HC := hid hc
  by_cases h0 : c = 0
  · obtain ⟨h, hh, hlh⟩ := check_pow (hc.trans h0)
    subst h0
    have hlog : Nat.log2 l.length = h := by rw [hlh, Nat.log2_two_pow]
    have h1 : (levAt l h).length = 1 := by rw [levAt_len hlh h (Nat.le_refl _), Nat.sub_self]
    obtain ⟨x, hx⟩ : ∃ x, (levAt l h).getD 0 Nd0 = x := ⟨_, rfl⟩
    have HX := hid hx
    have hr : rootV l = x := by unfold rootV rootN; rw [if_pos hc, hlog, hx]
    have HHN := hid (show heightN l.length = h by unfold heightN; rw [if_pos hc, hlog])
    rw [hr, hc]
    have H1 := hid (show 0 < (levAt l h).length by rw [h1]; decide)
    clear hr hlog hlh hc hx h1
    go_enter Try.func26, Try.ntmps26
    go_wp2_with (first
      | ((first
          | ((with_reducible apply wpL_skip); rfl; skip)
          | (go_at_call 61; (with_reducible refine (height_any _ l.length hn).mono ?_); rw [HHN.out, HC.out]; rintro e_ w2_ ⟨rfl, hb_⟩; (have hq_ := HH.out.grow hb_); clear HH; have HH := hid hq_; clear hq_ hb_)
          | (go_at_call 62; (have hcall_ := hid (nodeR_any l hn h _ (.slice ao l.length cap) 0 (h : Int) 0 (HH.out.sl HL.out) (by omega) H1.out rfl rfl)); (with_reducible refine hcall_.out.mono ?_); clear hcall_; rw [HX.out]; rintro e_ w2_ ⟨rfl, hb_⟩; (have hq_ := HH.out.grow hb_); clear HH; have HH := hid hq_; clear hq_ hb_)
          | ((with_reducible apply wpL_storeC (t := 41) (vs := x.cells)); rfl; rfl; (exact kS41); (exact HH.out); (exact .here); (exact Arr.len _); (exact cells_one _); (exact Arr.len _); rfl; (intro w_ hq_; clear HH; have HH := hid hq_; clear hq_))
          | ((with_reducible apply wpL_nilCheck); rfl; rfl)
          | ((with_reducible apply wpL_len (t := 30) Try.underlying30); rfl; rfl)
          | ((with_reducible apply wpL_allocC (dst := some 2) kZ41 HH.out); rfl; (intro g2_ w_ hq_; (try simp only [List.set_cons_zero, List.set_cons_succ] at hq_); clear HH; have HH := hid hq_; clear hq_))
          | ((with_reducible apply wpL_storeArr (t := 41) kS41 HH.out); rfl; rfl; (first | exact .here | exact .there .here | exact .there (.there .here) | exact .there (.there (.there .here)) | exact .there (.there (.there (.there .here))) | exact .there (.there (.there (.there (.there .here)))) | exact .there (.there (.there (.there (.there (.there .here))))) | exact .there (.there (.there (.there (.there (.there (.there .here))))))); (first | rfl | exact Arr.len _ | (simp; done)); rfl; (intro w_ hq_; (try simp only [List.set_cons_zero, List.set_cons_succ] at hq_); clear HH; have HH := hid hq_; clear hq_))
          | ((with_reducible apply wpL_storeC (t := 41)); rfl; rfl; (exact kS41); (exact HH.out); (first | exact .here | exact .there .here | exact .there (.there .here) | exact .there (.there (.there .here)) | exact .there (.there (.there (.there .here))) | exact .there (.there (.there (.there (.there .here)))) | exact .there (.there (.there (.there (.there (.there .here))))) | exact .there (.there (.there (.there (.there (.there (.there .here))))))); (first | rfl | exact Arr.len _ | (simp; done)); (first | rfl | (intro u_ hu_; simp only [List.mem_cons, List.not_mem_nil, or_false] at hu_; rcases hu_ with rfl | hu_; rfl) | exact byt_cell1 _ | exact cells_one _ | exact wrd_one _ | exact flat_cell1 _); (first | rfl | exact Arr.len _ | (simp; done)); rfl; (intro w_ hq_; (try simp only [List.set_cons_zero, List.set_cons_succ] at hq_); clear HH; have HH := hid hq_; clear hq_))
          | ((with_reducible apply wpL_move); rfl; rfl)
          | ((with_reducible apply wpL_assign); rfl; rfl)
          | ((with_reducible apply wpL_pick); rfl; rfl; rfl)
          | ((with_reducible apply wpL_not); rfl; rfl)
          | ((with_reducible apply wpL_cmp (b := true)); rfl; rfl; rfl; (first | rfl | assumption | (simp only [cmpB, decide_eq_true_eq, decide_eq_false_iff_not, beq_iff_eq, bne_iff_ne, ne_eq, beq_eq_false_iff_ne, bne_eq_false_iff_eq, gt_iff_lt, ge_iff_le]; omega) | (simp; omega)); rfl)
          | ((with_reducible apply wpL_cmp (b := false)); rfl; rfl; rfl; (first | rfl | assumption | (simp only [cmpB, decide_eq_true_eq, decide_eq_false_iff_not, beq_iff_eq, bne_iff_ne, ne_eq, beq_eq_false_iff_ne, bne_eq_false_iff_eq, gt_iff_lt, ge_iff_le]; omega) | (simp; omega)); rfl)
          | ((with_reducible apply wpL_cmp); rfl; rfl; rfl; rfl; rfl)
          | ((with_reducible apply wpL_arith); rfl; rfl; rfl; (exact IntWalk.i64_in _ (by (try simp only [arithI]); omega)); rfl)); (try simp only [arithI, Act.put, Act.eval, List.setIfInBounds_toArray, List.set_cons_succ, List.set_cons_zero, Array.getD_eq_getD_getElem?, List.getElem?_toArray, List.getElem?_cons_succ, List.getElem?_cons_zero, Option.getD_some])))
    refine bodyPost_ret (res2 rfl (resC kA41 HH.out (by rfl) .here (Arr.len _)) (by rfl)) rfl ?_
    exact RetR.mk rfl rfl HH.out.below
  · have hr : rootV l = Nd0 := by unfold rootV; rw [if_neg (by rw [hc]; exact h0)]
    have HHN := hid (show heightN l.length = 0 by unfold heightN; rw [if_neg (by rw [hc]; exact h0)])
    rw [hr, hc]
    have hcb : (c != 0) = true := by simpa using h0
    clear hr hc h0
    go_enter Try.func26, Try.ntmps26
    go_wp2_with (first
      | ((first
          | ((with_reducible apply wpL_skip); rfl; skip)
          | (go_at_call 61; (with_reducible refine (height_any _ l.length hn).mono ?_); rw [HHN.out, HC.out]; rintro e_ w2_ ⟨rfl, hb_⟩; (have hq_ := HH.out.grow hb_); clear HH; have HH := hid hq_; clear hq_ hb_)
          | ((with_reducible apply wpList_build (parts := #[]) (v := Nd0.val)); (exact BZ41); rfl)
          | ((with_reducible apply wpL_storeC (t := 41) (vs := Nd0.cells)); rfl; rfl; (exact kS41); (exact HH.out); (exact .here); (exact Arr.len _); (exact cells_one _); (exact Arr.len _); rfl; (intro w_ hq_; clear HH; have HH := hid hq_; clear hq_))
          | ((with_reducible apply wpL_nilCheck); rfl; rfl)
          | ((with_reducible apply wpL_len (t := 30) Try.underlying30); rfl; rfl)
          | ((with_reducible apply wpL_allocC (dst := some 2) kZ41 HH.out); rfl; (intro g2_ w_ hq_; (try simp only [List.set_cons_zero, List.set_cons_succ] at hq_); clear HH; have HH := hid hq_; clear hq_))
          | ((with_reducible apply wpL_storeArr (t := 41) kS41 HH.out); rfl; rfl; (first | exact .here | exact .there .here | exact .there (.there .here) | exact .there (.there (.there .here)) | exact .there (.there (.there (.there .here))) | exact .there (.there (.there (.there (.there .here)))) | exact .there (.there (.there (.there (.there (.there .here))))) | exact .there (.there (.there (.there (.there (.there (.there .here))))))); (first | rfl | exact Arr.len _ | (simp; done)); rfl; (intro w_ hq_; (try simp only [List.set_cons_zero, List.set_cons_succ] at hq_); clear HH; have HH := hid hq_; clear hq_))
          | ((with_reducible apply wpL_storeC (t := 41)); rfl; rfl; (exact kS41); (exact HH.out); (first | exact .here | exact .there .here | exact .there (.there .here) | exact .there (.there (.there .here)) | exact .there (.there (.there (.there .here))) | exact .there (.there (.there (.there (.there .here)))) | exact .there (.there (.there (.there (.there (.there .here))))) | exact .there (.there (.there (.there (.there (.there (.there .here))))))); (first | rfl | exact Arr.len _ | (simp; done)); (first | rfl | (intro u_ hu_; simp only [List.mem_cons, List.not_mem_nil, or_false] at hu_; rcases hu_ with rfl | hu_; rfl) | exact byt_cell1 _ | exact cells_one _ | exact wrd_one _ | exact flat_cell1 _); (first | rfl | exact Arr.len _ | (simp; done)); rfl; (intro w_ hq_; (try simp only [List.set_cons_zero, List.set_cons_succ] at hq_); clear HH; have HH := hid hq_; clear hq_))
          | ((with_reducible apply wpL_move); rfl; rfl)
          | ((with_reducible apply wpL_assign); rfl; rfl)
          | ((with_reducible apply wpL_pick); rfl; rfl; rfl)
          | ((with_reducible apply wpL_not); rfl; rfl)
          | ((with_reducible apply wpL_cmp (b := true)); rfl; rfl; rfl; (first | rfl | assumption | (simp only [cmpB, decide_eq_true_eq, decide_eq_false_iff_not, beq_iff_eq, bne_iff_ne, ne_eq, beq_eq_false_iff_ne, bne_eq_false_iff_eq, gt_iff_lt, ge_iff_le]; omega) | (simp; omega)); rfl)
          | ((with_reducible apply wpL_cmp (b := false)); rfl; rfl; rfl; (first | rfl | assumption | (simp only [cmpB, decide_eq_true_eq, decide_eq_false_iff_not, beq_iff_eq, bne_iff_ne, ne_eq, beq_eq_false_iff_ne, bne_eq_false_iff_eq, gt_iff_lt, ge_iff_le]; omega) | (simp; omega)); rfl)
          | ((with_reducible apply wpL_cmp); rfl; rfl; rfl; rfl; rfl)
          | ((with_reducible apply wpL_arith); rfl; rfl; rfl; (exact IntWalk.i64_in _ (by (try simp only [arithI]); omega)); rfl)); (try simp only [arithI, Act.put, Act.eval, List.setIfInBounds_toArray, List.set_cons_succ, List.set_cons_zero, Array.getD_eq_getD_getElem?, List.getElem?_toArray, List.getElem?_cons_succ, List.getElem?_cons_zero, Option.getD_some])))
    refine bodyPost_ret (res2 rfl (resC kA41 HH.out (by rfl) .here (Arr.len _)) (by rfl)) rfl ?_
    exact RetR.mk rfl rfl HH.out.below
end Go.Proofs.Ytgkfopodhikckaa

/- Path of the reference. Condition: at most 10^9 nodes. -/
namespace Go.Proofs.Ytgkfopodhikckaa
open Go.RowKit
attribute [local irreducible] wpQuiet wpList
theorem xor_one_all : ∀ m : Fin 1025, m.1 ^^^ 1 = if m.1 % 2 = 0 then m.1 + 1 else m.1 - 1 := by decide +kernel
theorem xor_one {m : Nat} (h : m ≤ 1024) : m ^^^ 1 = if m % 2 = 0 then m + 1 else m - 1 := xor_one_all ⟨m, by omega⟩
def RPathRel (w : World) (l : List Nd) (h j : Nat) (v kv : Value) (wr : World) : Prop :=
  ∃ (k : Nat) (r : List Nd) (ao : Option Addr) (cap : Nat), k ≤ h ∧ kv = .int .i64 k ∧ r = pathL l k j ∧ v = .slice ao r.length cap ∧ Holds w [] [] [rowA 41 ao cap r] wr
set_option maxRecDepth 100000 in
set_option maxHeartbeats 4000000 in
theorem pathR_any (w : World) (v : Value) (l : List Nd) (i : Int) (hl : Arrs w v l) (hn : l.length ≤ 1000000000) : Calls Try.prog 52 #[v, .int .i64 i] w (RetP w (pathV l i) (pathC l i)) := by
  obtain ⟨ao, cap, rfl, _⟩ := hl.shape
  have HL := hid hl
  clear hl
  have HH := hid (Holds.init w)
  obtain ⟨c, hc⟩ : ∃ c, checkC l.length = c := ⟨_, rfl⟩
  have HC := hid hc
  by_cases h0 : c = 0
  · subst h0
    obtain ⟨h, hh, hlh⟩ := check_pow hc
    have HHN := hid (show heightN l.length = h by unfold heightN; rw [if_pos hc, hlh, Nat.log2_two_pow])
    by_cases hi0 : i < 0
    · have e1 : pathC l i = 8 := by unfold pathC; rw [if_pos hc, if_pos (.inl hi0)]
      have e2 : pathV l i = [] := by unfold pathV; rw [e1]; rfl
      rw [e1, e2]
      clear e1 e2 hc hlh
      go_enter Try.func52, Try.ntmps52
      go_wp2_with (first
        | ((first
            | ((with_reducible apply wpL_skip); rfl; skip)
            | (go_at_call 61; (with_reducible refine (height_any _ l.length hn).mono ?_); rw [HHN.out, HC.out]; rintro e_ w2_ ⟨rfl, hb_⟩; (have hq_ := HH.out.grow hb_); clear HH; have HH := hid hq_; clear hq_ hb_)
            | ((with_reducible apply wpL_nilCheck); rfl; rfl)
            | ((with_reducible apply wpL_len (t := 30) Try.underlying30); rfl; rfl)
            | ((with_reducible apply wpL_move); rfl; rfl)
            | ((with_reducible apply wpL_assign); rfl; rfl)
            | ((with_reducible apply wpL_pick); rfl; rfl; rfl)
            | ((with_reducible apply wpL_not); rfl; rfl)
            | ((with_reducible apply wpL_cmp (b := true)); rfl; rfl; rfl; (first | rfl | assumption | (simp only [cmpB, decide_eq_true_eq, decide_eq_false_iff_not, beq_iff_eq, bne_iff_ne, ne_eq, beq_eq_false_iff_ne, bne_eq_false_iff_eq, gt_iff_lt, ge_iff_le]; omega) | (simp; omega)); rfl)
            | ((with_reducible apply wpL_cmp (b := false)); rfl; rfl; rfl; (first | rfl | assumption | (simp only [cmpB, decide_eq_true_eq, decide_eq_false_iff_not, beq_iff_eq, bne_iff_ne, ne_eq, beq_eq_false_iff_ne, bne_eq_false_iff_eq, gt_iff_lt, ge_iff_le]; omega) | (simp; omega)); rfl)
            | ((with_reducible apply wpL_cmp); rfl; rfl; rfl; rfl; rfl)
            | ((with_reducible apply wpL_arith); rfl; rfl; rfl; (exact IntWalk.i64_in _ (by (try simp only [arithI]); omega)); rfl)); (try simp only [arithI, Act.put, Act.eval, List.setIfInBounds_toArray, List.set_cons_succ, List.set_cons_zero, Array.getD_eq_getD_getElem?, List.getElem?_toArray, List.getElem?_cons_succ, List.getElem?_cons_zero, Option.getD_some])))
      go_ret2
      exact RetP.no rfl rfl HH.out.below
    · obtain ⟨j, rfl⟩ : ∃ j : Nat, i = j := ⟨i.toNat, by omega⟩
      by_cases hj : j < l.length
      · have e1 : pathC l (j : Int) = 0 := by unfold pathC; rw [if_pos hc, if_neg (by omega)]
        have e2 : pathV l (j : Int) = pathL l h j := by unfold pathV; rw [if_pos e1, hlh, Nat.log2_two_pow]; rfl
        rw [e1, e2]
        have HLH := hid hlh
        have hj2 : j < 2 ^ h := by rw [← hlh]; exact hj
        have hj10 : j ≤ 1024 := by
          have : 2 ^ h ≤ 2 ^ 10 := Nat.pow_le_pow_right (by decide) hh
          omega
        have HJ := hid hj2
        clear e1 e2 hc hlh hj2
        go_enter Try.func52, Try.ntmps52
        go_wp2_with (first
          | ((first
              | ((with_reducible apply wpL_skip); rfl; skip)
              | (go_at_call 61; (with_reducible refine (height_any _ l.length hn).mono ?_); rw [HHN.out, HC.out]; rintro e_ w2_ ⟨rfl, hb_⟩; (have hq_ := HH.out.grow hb_); clear HH; have HH := hid hq_; clear hq_ hb_)
              | ((with_reducible apply wpL_nilCheck); rfl; rfl)
              | ((with_reducible apply wpL_len (t := 30) Try.underlying30); rfl; rfl)
              | ((with_reducible apply wpL_move); rfl; rfl)
              | ((with_reducible apply wpL_assign); rfl; rfl)
              | ((with_reducible apply wpL_pick); rfl; rfl; rfl)
              | ((with_reducible apply wpL_not); rfl; rfl)
              | ((with_reducible apply wpL_cmp (b := true)); rfl; rfl; rfl; (first | rfl | assumption | (simp only [cmpB, decide_eq_true_eq, decide_eq_false_iff_not, beq_iff_eq, bne_iff_ne, ne_eq, beq_eq_false_iff_ne, bne_eq_false_iff_eq, gt_iff_lt, ge_iff_le]; omega) | (simp; omega)); rfl)
              | ((with_reducible apply wpL_cmp (b := false)); rfl; rfl; rfl; (first | rfl | assumption | (simp only [cmpB, decide_eq_true_eq, decide_eq_false_iff_not, beq_iff_eq, bne_iff_ne, ne_eq, beq_eq_false_iff_ne, bne_eq_false_iff_eq, gt_iff_lt, ge_iff_le]; omega) | (simp; omega)); rfl)
              | ((with_reducible apply wpL_cmp); rfl; rfl; rfl; rfl; rfl)
              | ((with_reducible apply wpL_arith); rfl; rfl; rfl; (exact IntWalk.i64_in _ (by (try simp only [arithI]); omega)); rfl)); (try simp only [arithI, Act.put, Act.eval, List.setIfInBounds_toArray, List.set_cons_succ, List.set_cons_zero, Array.getD_eq_getD_getElem?, List.getElem?_toArray, List.getElem?_cons_succ, List.getElem?_cons_zero, Option.getD_some])))
        go_loopw [8, 9] (RPathRel w l h j) (fun _ k _ => h - (intOf k).toNat)
        case atStart => exact ⟨0, [], none, 0, Nat.zero_le _, rfl, rfl, rfl, HH.out.addNil 41 16⟩
        case round =>
          obtain ⟨k, r, ao1, cap1, hk, rfl, hrk, rfl, hr⟩ := hrel
          clear HH
          have HH := hid hr
          have HRK := hid hrk
          have hrl : r.length = k := by rw [hrk, pathL_len]
          clear hr hrk
          by_cases hkh : k < h
          · obtain ⟨m, hm⟩ : ∃ m, m = j / 2 ^ k := ⟨_, rfl⟩
            have HM := hid hm
            have hm10 : m ≤ 1024 := by rw [hm]; exact Nat.le_trans (Nat.div_le_self _ _) hj10
            have hlen := levAt_len HLH.out k (by omega)
            have hmb : m < 2 ^ (h - k) := by
              rw [hm, Nat.div_lt_iff_lt_mul (Nat.two_pow_pos _), ← Nat.pow_add, show h - k + k = h by omega]
              exact HJ.out
            have h1b : 1 < 2 ^ (h - k) := Nat.one_lt_two_pow (by omega)
            obtain ⟨q, hq⟩ : ∃ q, m ^^^ 1 = q := ⟨_, rfl⟩
            have HQB := hid (show q < (levAt l k).length by rw [hlen, ← hq]; exact Nat.xor_lt_two_pow hmb h1b)
            have hqx := xor_one hm10
            rw [hq] at hqx
            obtain ⟨x, hx⟩ : ∃ x, (levAt l k).getD q Nd0 = x := ⟨_, rfl⟩
            have HX := hid hx
            obtain ⟨r2, hr2⟩ : ∃ r2, r ++ [x] = r2 := ⟨_, rfl⟩
            have HR2 := hid hr2
            have HST := hid (show r2 = pathL l (k + 1) j by rw [← hr2, pathL_succ, ← HRK.out, ← HM.out, hq, hx])
            clear hm hlen hmb h1b hq hx hr2
            by_cases hpar : m % 2 = 0
            · have hqe : q = m + 1 := by rw [hqx, if_pos hpar]
              clear hqx
              go_wp2_with (first
                | ((first
                    | ((with_reducible apply wpL_skip); rfl; skip)
                    | ((with_reducible apply wpL_shrI (m := j) (k := k) (r := m)); rfl; rfl; rfl; rfl; (exact (by omega)); (exact HM.out.symm); rfl)
                    | (go_at_call 62; (have hcall_ := hid (nodeR_any l hn k _ (.slice ao l.length cap) q (k : Int) ((m:Int)+1) (HH.out.sl HL.out) (by omega) HQB.out rfl (by omega))); (with_reducible refine hcall_.out.mono ?_); clear hcall_; rw [HX.out]; rintro e_ w2_ ⟨rfl, hb_⟩; (have hq_ := HH.out.grow hb_); clear HH; have HH := hid hq_; clear hq_ hb_)
                    | ((with_reducible apply wpL_buildA kE30 x (by decide)); rfl; (exact HH.out); rfl; (intro g_ w_ hq_; clear HH; have HH := hid hq_; clear hq_))
                    | ((with_reducible apply wpL_appendA (l := r) (l2 := [x]) (r := r2) kE30 HH.out.swap HH.out.sl0 HR2.out); rfl; rfl; (exact (by simp; omega)); rfl; rfl; rfl; (intro ao4 cap4 w_ hq_; clear HH; have HH := hid hq_.dropSnd; clear hq_))
                    | ((with_reducible apply wpL_nilCheck); rfl; rfl)
                    | ((with_reducible apply wpL_len (t := 30) Try.underlying30); rfl; rfl)
                    | ((with_reducible apply wpL_move); rfl; rfl)
                    | ((with_reducible apply wpL_assign); rfl; rfl)
                    | ((with_reducible apply wpL_pick); rfl; rfl; rfl)
                    | ((with_reducible apply wpL_not); rfl; rfl)
                    | ((with_reducible apply wpL_cmp (b := true)); rfl; rfl; rfl; (first | rfl | assumption | (simp only [cmpB, decide_eq_true_eq, decide_eq_false_iff_not, beq_iff_eq, bne_iff_ne, ne_eq, beq_eq_false_iff_ne, bne_eq_false_iff_eq, gt_iff_lt, ge_iff_le]; omega) | (simp; omega)); rfl)
                    | ((with_reducible apply wpL_cmp (b := false)); rfl; rfl; rfl; (first | rfl | assumption | (simp only [cmpB, decide_eq_true_eq, decide_eq_false_iff_not, beq_iff_eq, bne_iff_ne, ne_eq, beq_eq_false_iff_ne, bne_eq_false_iff_eq, gt_iff_lt, ge_iff_le]; omega) | (simp; omega)); rfl)
                    | ((with_reducible apply wpL_cmp); rfl; rfl; rfl; rfl; rfl)
                    | ((with_reducible apply wpL_arith); rfl; rfl; rfl; (exact IntWalk.i64_in _ (by (try simp only [arithI]); omega)); rfl)); (try simp only [arithI, Act.put, Act.eval, List.setIfInBounds_toArray, List.set_cons_succ, List.set_cons_zero, Array.getD_eq_getD_getElem?, List.getElem?_toArray, List.getElem?_cons_succ, List.getElem?_cons_zero, Option.getD_some])))
              go_roundw
              case rel => exact ⟨k + 1, r2, _, _, by omega, by go_num, HST.out, rfl, HH.out⟩
              case measure => simp [intOf]; omega
            · have hqe : q = m - 1 := by rw [hqx, if_neg hpar]
              have hm1 : 1 ≤ m := by omega
              clear hqx
              go_wp2_with (first
                | ((first
                    | ((with_reducible apply wpL_skip); rfl; skip)
                    | ((with_reducible apply wpL_shrI (m := j) (k := k) (r := m)); rfl; rfl; rfl; rfl; (exact (by omega)); (exact HM.out.symm); rfl)
                    | (go_at_call 62; (have hcall_ := hid (nodeR_any l hn k _ (.slice ao l.length cap) q (k : Int) ((m:Int)-1) (HH.out.sl HL.out) (by omega) HQB.out rfl (by omega))); (with_reducible refine hcall_.out.mono ?_); clear hcall_; rw [HX.out]; rintro e_ w2_ ⟨rfl, hb_⟩; (have hq_ := HH.out.grow hb_); clear HH; have HH := hid hq_; clear hq_ hb_)
                    | ((with_reducible apply wpL_buildA kE30 x (by decide)); rfl; (exact HH.out); rfl; (intro g_ w_ hq_; clear HH; have HH := hid hq_; clear hq_))
                    | ((with_reducible apply wpL_appendA (l := r) (l2 := [x]) (r := r2) kE30 HH.out.swap HH.out.sl0 HR2.out); rfl; rfl; (exact (by simp; omega)); rfl; rfl; rfl; (intro ao4 cap4 w_ hq_; clear HH; have HH := hid hq_.dropSnd; clear hq_))
                    | ((with_reducible apply wpL_nilCheck); rfl; rfl)
                    | ((with_reducible apply wpL_len (t := 30) Try.underlying30); rfl; rfl)
                    | ((with_reducible apply wpL_move); rfl; rfl)
                    | ((with_reducible apply wpL_assign); rfl; rfl)
                    | ((with_reducible apply wpL_pick); rfl; rfl; rfl)
                    | ((with_reducible apply wpL_not); rfl; rfl)
                    | ((with_reducible apply wpL_cmp (b := true)); rfl; rfl; rfl; (first | rfl | assumption | (simp only [cmpB, decide_eq_true_eq, decide_eq_false_iff_not, beq_iff_eq, bne_iff_ne, ne_eq, beq_eq_false_iff_ne, bne_eq_false_iff_eq, gt_iff_lt, ge_iff_le]; omega) | (simp; omega)); rfl)
                    | ((with_reducible apply wpL_cmp (b := false)); rfl; rfl; rfl; (first | rfl | assumption | (simp only [cmpB, decide_eq_true_eq, decide_eq_false_iff_not, beq_iff_eq, bne_iff_ne, ne_eq, beq_eq_false_iff_ne, bne_eq_false_iff_eq, gt_iff_lt, ge_iff_le]; omega) | (simp; omega)); rfl)
                    | ((with_reducible apply wpL_cmp); rfl; rfl; rfl; rfl; rfl)
                    | ((with_reducible apply wpL_arith); rfl; rfl; rfl; (exact IntWalk.i64_in _ (by (try simp only [arithI]); omega)); rfl)); (try simp only [arithI, Act.put, Act.eval, List.setIfInBounds_toArray, List.set_cons_succ, List.set_cons_zero, Array.getD_eq_getD_getElem?, List.getElem?_toArray, List.getElem?_cons_succ, List.getElem?_cons_zero, Option.getD_some])))
              go_roundw
              case rel => exact ⟨k + 1, r2, _, _, by omega, by go_num, HST.out, rfl, HH.out⟩
              case measure => simp [intOf]; omega
          · obtain rfl : k = h := by omega
            go_wp2_with (first
              | ((first
                  | ((with_reducible apply wpL_skip); rfl; skip)
                  | ((with_reducible apply wpL_nilCheck); rfl; rfl)
                  | ((with_reducible apply wpL_len (t := 30) Try.underlying30); rfl; rfl)
                  | ((with_reducible apply wpL_move); rfl; rfl)
                  | ((with_reducible apply wpL_assign); rfl; rfl)
                  | ((with_reducible apply wpL_pick); rfl; rfl; rfl)
                  | ((with_reducible apply wpL_not); rfl; rfl)
                  | ((with_reducible apply wpL_cmp (b := true)); rfl; rfl; rfl; (first | rfl | assumption | (simp only [cmpB, decide_eq_true_eq, decide_eq_false_iff_not, beq_iff_eq, bne_iff_ne, ne_eq, beq_eq_false_iff_ne, bne_eq_false_iff_eq, gt_iff_lt, ge_iff_le]; omega) | (simp; omega)); rfl)
                  | ((with_reducible apply wpL_cmp (b := false)); rfl; rfl; rfl; (first | rfl | assumption | (simp only [cmpB, decide_eq_true_eq, decide_eq_false_iff_not, beq_iff_eq, bne_iff_ne, ne_eq, beq_eq_false_iff_ne, bne_eq_false_iff_eq, gt_iff_lt, ge_iff_le]; omega) | (simp; omega)); rfl)
                  | ((with_reducible apply wpL_cmp); rfl; rfl; rfl; rfl; rfl)
                  | ((with_reducible apply wpL_arith); rfl; rfl; rfl; (exact IntWalk.i64_in _ (by (try simp only [arithI]); omega)); rfl)); (try simp only [arithI, Act.put, Act.eval, List.setIfInBounds_toArray, List.set_cons_succ, List.set_cons_zero, Array.getD_eq_getD_getElem?, List.getElem?_toArray, List.getElem?_cons_succ, List.getElem?_cons_zero, Option.getD_some])))
            go_ret2
            exact RetP.mk HRK.out rfl HH.out.below HH.out.sl0
      · have e1 : pathC l (j : Int) = 8 := by unfold pathC; rw [if_pos hc, if_pos (.inr (by omega))]
        have e2 : pathV l (j : Int) = [] := by unfold pathV; rw [e1]; rfl
        rw [e1, e2]
        clear e1 e2 hc hlh
        go_enter Try.func52, Try.ntmps52
        go_wp2_with (first
          | ((first
              | ((with_reducible apply wpL_skip); rfl; skip)
              | (go_at_call 61; (with_reducible refine (height_any _ l.length hn).mono ?_); rw [HHN.out, HC.out]; rintro e_ w2_ ⟨rfl, hb_⟩; (have hq_ := HH.out.grow hb_); clear HH; have HH := hid hq_; clear hq_ hb_)
              | ((with_reducible apply wpL_nilCheck); rfl; rfl)
              | ((with_reducible apply wpL_len (t := 30) Try.underlying30); rfl; rfl)
              | ((with_reducible apply wpL_move); rfl; rfl)
              | ((with_reducible apply wpL_assign); rfl; rfl)
              | ((with_reducible apply wpL_pick); rfl; rfl; rfl)
              | ((with_reducible apply wpL_not); rfl; rfl)
              | ((with_reducible apply wpL_cmp (b := true)); rfl; rfl; rfl; (first | rfl | assumption | (simp only [cmpB, decide_eq_true_eq, decide_eq_false_iff_not, beq_iff_eq, bne_iff_ne, ne_eq, beq_eq_false_iff_ne, bne_eq_false_iff_eq, gt_iff_lt, ge_iff_le]; omega) | (simp; omega)); rfl)
              | ((with_reducible apply wpL_cmp (b := false)); rfl; rfl; rfl; (first | rfl | assumption | (simp only [cmpB, decide_eq_true_eq, decide_eq_false_iff_not, beq_iff_eq, bne_iff_ne, ne_eq, beq_eq_false_iff_ne, bne_eq_false_iff_eq, gt_iff_lt, ge_iff_le]; omega) | (simp; omega)); rfl)
              | ((with_reducible apply wpL_cmp); rfl; rfl; rfl; rfl; rfl)
              | ((with_reducible apply wpL_arith); rfl; rfl; rfl; (exact IntWalk.i64_in _ (by (try simp only [arithI]); omega)); rfl)); (try simp only [arithI, Act.put, Act.eval, List.setIfInBounds_toArray, List.set_cons_succ, List.set_cons_zero, Array.getD_eq_getD_getElem?, List.getElem?_toArray, List.getElem?_cons_succ, List.getElem?_cons_zero, Option.getD_some])))
        go_ret2
        exact RetP.no rfl rfl HH.out.below
  · have HHN := hid (show heightN l.length = 0 by unfold heightN; rw [if_neg (by rw [hc]; exact h0)])
    have e1 : pathC l i = c := by unfold pathC; rw [if_neg (by rw [hc]; exact h0), hc]
    have e2 : pathV l i = [] := by unfold pathV; rw [e1, if_neg h0]
    rw [e1, e2]
    have hcb : (c != 0) = true := by simpa using h0
    clear e1 e2 hc h0
    go_enter Try.func52, Try.ntmps52
    go_wp2_with (first
      | ((first
          | ((with_reducible apply wpL_skip); rfl; skip)
          | (go_at_call 61; (with_reducible refine (height_any _ l.length hn).mono ?_); rw [HHN.out, HC.out]; rintro e_ w2_ ⟨rfl, hb_⟩; (have hq_ := HH.out.grow hb_); clear HH; have HH := hid hq_; clear hq_ hb_)
          | ((with_reducible apply wpL_nilCheck); rfl; rfl)
          | ((with_reducible apply wpL_len (t := 30) Try.underlying30); rfl; rfl)
          | ((with_reducible apply wpL_move); rfl; rfl)
          | ((with_reducible apply wpL_assign); rfl; rfl)
          | ((with_reducible apply wpL_pick); rfl; rfl; rfl)
          | ((with_reducible apply wpL_not); rfl; rfl)
          | ((with_reducible apply wpL_cmp (b := true)); rfl; rfl; rfl; (first | rfl | assumption | (simp only [cmpB, decide_eq_true_eq, decide_eq_false_iff_not, beq_iff_eq, bne_iff_ne, ne_eq, beq_eq_false_iff_ne, bne_eq_false_iff_eq, gt_iff_lt, ge_iff_le]; omega) | (simp; omega)); rfl)
          | ((with_reducible apply wpL_cmp (b := false)); rfl; rfl; rfl; (first | rfl | assumption | (simp only [cmpB, decide_eq_true_eq, decide_eq_false_iff_not, beq_iff_eq, bne_iff_ne, ne_eq, beq_eq_false_iff_ne, bne_eq_false_iff_eq, gt_iff_lt, ge_iff_le]; omega) | (simp; omega)); rfl)
          | ((with_reducible apply wpL_cmp); rfl; rfl; rfl; rfl; rfl)
          | ((with_reducible apply wpL_arith); rfl; rfl; rfl; (exact IntWalk.i64_in _ (by (try simp only [arithI]); omega)); rfl)); (try simp only [arithI, Act.put, Act.eval, List.setIfInBounds_toArray, List.set_cons_succ, List.set_cons_zero, Array.getD_eq_getD_getElem?, List.getElem?_toArray, List.getElem?_cons_succ, List.getElem?_cons_zero, Option.getD_some])))
    go_ret2
    exact RetP.no rfl rfl HH.out.below
end Go.Proofs.Ytgkfopodhikckaa

/- climb of merkle (under way). -/
namespace Go.Proofs.Ytgkfopodhikckaa
open Go.RowKit
attribute [local irreducible] wpQuiet wpList
/-- Left and right by bit k of the index. -/
def pairC (i k : Nat) (c s : Nd) : Nd × Nd := if (i / 2 ^ k) % 2 = 1 then (s, c) else (c, s)
/-- The node after k steps. -/
def curAt (i : Nat) (x : Nd) (p : List Nd) : Nat → Nd
  | 0 => x
  | k + 1 => joinN ((k + 1 : Nat) : Int) (pairC i k (curAt i x p k) (p.getD k Nd0)).1 (pairC i k (curAt i x p k) (p.getD k Nd0)).2
end Go.Proofs.Ytgkfopodhikckaa

/- One operation of a drawn region by what is listed: alloc, load, store of the call's own variables. No condition. -/
namespace Go.Proofs.Ytgkfopodhikckaa
open Go.RowKit
section
variable {P : Program} {w0 w : World} {S : List Nat} {bs bs' : List (Nat × Obj)} {rows : List Row} {a : Act} {dst : Option Tmp} {ty : TypeId} {pos : String} {after : Array Edge} {guard : Option (Nat × Bool)} {R : Value → World → Prop}
theorem Holds.permB (h : Holds w0 S bs rows w) (hp : bs.Perm bs') : Holds w0 S bs' rows w :=
  ⟨h.os, h.tape, h.output, h.size, h.old, fun p hp' => h.blk p (hp.mem_iff.2 hp'), fun p hp' => h.frs p (hp.mem_iff.2 hp'), h.row, (List.Perm.nodup_iff (List.Perm.append_right _ (hp.map _))).1 h.sep, h.inS⟩
theorem ok_alloc {e : TypeId} {zs : List Value} (hz : (P.info? e).map (·.zero) = some (some (.agg zs.toArray))) (hH : Holds w0 S bs rows w)
    (h : ∀ g w', Holds w0 S ((g, objC zs e) :: bs) rows w' → R (.pointer (some ⟨g, 0, none⟩)) w') :
    OpOK P { dst := dst, op := .alloc e, type := ty, pos := pos, after := after, guard := guard } a w R := by
  have hr : (execOp a.eval { dst := dst, op := .alloc e, type := ty, pos := pos, after := after, guard := guard }).run P w = .ok (.value (.pointer (some ⟨w.heap.size, 0, none⟩))) (w.alloc (objC zs e)) := by
    simp only [execOp, Instr.alloc, Sem.run_bind, run_zeroValue hz, Result.andThen_ok, newVar, newRow, run_newObj, Sem.run_pure]
    rfl
  unfold OpOK
  rw [hr]
  exact h _ _ (hH.alloc _)
theorem ok_load {t : TypeId} {n : Nat} (hA : AggT P t n) (hH : Holds w0 S bs rows w) {x : Operand} {g : Nat} {cs : List Value} {e : TypeId}
    (hx : a.eval x = .pointer (some ⟨g, 0, none⟩)) (ho : Own bs g (objC cs e)) (hl : cs.length = n) (h : R (.agg cs.toArray) w) :
    OpOK P { dst := dst, op := .load t x, type := ty, pos := pos, after := after, guard := guard } a w R := by
  have hr := ex_loadPart (dst := dst) (ty := ty) (pos := pos) (after := after) (guard := guard) (ρ := a.eval) hA hH hx ho (j := 0) (vs := cs) (by rw [List.drop_zero, ← hl, List.take_length]) hl
  unfold OpOK
  rw [hr]
  exact h
theorem ok_store {t : TypeId} {x y : Operand} {g : Nat} {vs cs : List Value} {sz : Nat} {e : TypeId}
    (hx : a.eval x = .pointer (some ⟨g, 0, none⟩)) (hy : a.eval y = .agg vs.toArray) (hi : (P.info? t).map (·.size) = some sz)
    (hH : Holds w0 S bs rows w) (ht : Turn bs g (objC cs e) (objC vs e) bs') (hv : vs.length = sz) (h1 : ∀ u ∈ vs, u.oneCell' = true) (hc : cs.length = sz)
    (h : ∀ w', Holds w0 S bs' rows w' → R undef w') :
    OpOK P { dst := dst, op := .store t x y, type := ty, pos := pos, after := after, guard := guard } a w R := by
  have hblk : w.heap[g]? = some (.cells cs.toArray e (0, 0)) := hH.at ht.own
  have hs := run_storeCells_at P g 0 e vs 0 cs.toArray w hblk (by simp; omega) h1
  have hdr : cs.drop sz = [] := List.drop_eq_nil_of_le (by omega)
  simp only [Nat.add_zero, hv, Nat.zero_add, List.take_zero, List.nil_append, hdr, List.append_nil] at hs
  have hvz : (Value.agg vs.toArray).cells.size = sz := by simpa [Value.cells] using hv
  have hcl : (Value.agg vs.toArray).cells.toList = vs := by simp [Value.cells]
  have hr : (execOp a.eval { dst := dst, op := .store t x y, type := ty, pos := pos, after := after, guard := guard }).run P w = .ok .skip (w.setRow g vs.toArray) := by
    simp only [execOp, hx, hy, Instr.storeAt, Instr.sureAddr, storeVar, Sem.run_bind, Sem.run_pure, Result.andThen_ok, run_sizeOf hi, hvz, hcl, ne_eq, not_true_eq_false, if_false, hs]
  unfold OpOK
  rw [hr]
  exact h _ (hH.turn ht (setRow_heap w g cs.toArray _ e (0, 0) hblk) rfl rfl rfl (by simp) fun k _ hk => setRow_other w g k _ hk)
end
end Go.Proofs.Ytgkfopodhikckaa

namespace Go.Proofs.Ytgkfopodhikckaa
open Go.RowKit
/-- One more is listed. -/
def upd (l : Nat → Bool) (i : Nat) : Nat → Bool := fun j => if j = i then true else l j
/-- A slot is written. -/
def updS (s : Nat → Value) (d : Nat) (v : Value) : Nat → Value := fun t => if t = d then v else s t
def stepS (o : Oper) (s : Nat → Value) (v : Value) : Nat → Value := match o.dst with | some d => updS s d v | none => s
/-- The slots. -/
def slF (a : Act) : Nat → Value := fun t => a.tmps.getD t undef
theorem slF_put {a : Act} {o : Oper} {v : Value} (h : ∀ d, o.dst = some d → d < a.tmps.size) : slF (a.put o.dst v) = stepS o (slF a) v := by
  funext t
  unfold slF stepS
  cases hd : o.dst with
  | none => rfl
  | some d =>
    simp only [updS]
    by_cases ht : t = d
    · subst ht; rw [if_pos rfl]; exact getD_put_self (h _ hd)
    · rw [if_neg ht]; exact getD_put_ne (Ne.symm ht)
def lsF (li : Array Bool) : Nat → Bool := fun i => li.getD i true
theorem lsF_set {li : Array Bool} {i : Nat} (h : i < li.size) : lsF (li.setIfInBounds i true) = upd (lsF li) i := by
  funext j
  unfold lsF upd
  by_cases hj : j = i
  · subst hj; rw [if_pos rfl]; exact getD_set_self h true
  · rw [if_neg hj]; exact getD_set_ne' (Ne.symm hj) true
/-- What is listed is closed under the edges that bind. -/
def closedF (ops : Array Oper) (l : Nat → Bool) : Prop := ∀ i o, ops[i]? = some o → l i = true → ∀ e ∈ o.after, Region.binds .any e = true → l e.on = true
def SatF (ops : Array Oper) (V : Nat → Value → Prop) (a : Act) (i : Nat) : Prop := ∀ o, ops[i]? = some o → V i (match o.dst with | some d => a.tmps.getD d undef | none => undef)
section
variable {P : Program} {w0 w : World} {S : List Nat} {a0 : Act} {Q : Exit → Act → World → Prop} {ops : Array Oper}
structure InvF (ops : Array Oper) (a0 : Act) (J : (Nat → Bool) → (Nat → Value) → World → Prop) (V : Nat → Value → Prop) (li : Array Bool) (a : Act) (w : World) : Prop where
  inv : J (lsF li) (slF a) w
  cl : closedF ops (lsF li)
  def_ : a.defers = a0.defers
  size : a.tmps.size = a0.tmps.size
  fr : ∀ t, (∀ i o, ops[i]? = some o → li.getD i false = true → o.dst ≠ some t) → a.tmps.getD t undef = a0.tmps.getD t undef
  sat : ∀ i, li.getD i false = true → SatF ops V a i
theorem InvF.frD {J : (Nat → Bool) → (Nat → Value) → World → Prop} {V : Nat → Value → Prop} {li : Array Bool} {a : Act} (h : InvF ops a0 J V li a w) : FrD ops a0 a :=
  ⟨h.def_, h.size, fun t ht => h.fr t fun i o ho _ => ht i o ho⟩
theorem wpAny_F {J : (Nat → Bool) → (Nat → Value) → World → Prop} {V : Nat → Value → Prop} (hsh : shapeD a0.tmps.size ops = true)
    (hstep : ∀ i o, ops[i]? = some o → ∀ l a w, closedF ops l → l i = false → J l (slF a) w → FrD ops a0 a → (∀ e ∈ o.after, Region.binds .any e = true → l e.on = true ∧ SatF ops V a e.on) →
      if Region.wanted o (yielded ops a.tmps) then OpOK P o a w (fun v w' => J (upd l i) (stepS o (slF a) v) w' ∧ V i (slotD o v)) else J (upd l i) (stepS o (slF a) undef) w ∧ V i undef)
    (hend : ∀ l a w, (∀ i, l i = true) → J l (slF a) w → FrD ops a0 a → (∀ i, i < ops.size → SatF ops V a i) → Q .normal a w) :
    ∀ (fuel : Nat) (li : Array Bool) (a : Act) (w : World), li.size = ops.size → li.toList.count false ≤ fuel → InvF ops a0 J V li a w → wpAny P .any ops Q fuel li a w := by
  have hall : ∀ (li : Array Bool), li.size = ops.size → Region.ready .any ops li = [] → ∀ i, i < ops.size → li.getD i false = true := by
    intro li hsz hr i
    induction i using Nat.strongRecOn with
    | ind i ih =>
      intro hi
      by_cases h : li.getD i false = true
      · exact h
      · exfalso
        have hm : i ∈ Region.ready .any ops li := by
          refine mem_ready.2 ⟨?_, ops[i], by simp [hi], fun e he hb => ?_⟩
          · simp [hsz, hi] at h ⊢; exact h
          · have := shapeD_back hsh (i := i) (o := ops[i]) (by simp [hi]) e he hb
            exact ih e.on this (by omega)
        rw [hr] at hm
        cases hm
  have htrue : ∀ (li : Array Bool), li.size = ops.size → (∀ i, i < ops.size → li.getD i false = true) → ∀ i, lsF li i = true := by
    intro li hsz h i
    unfold lsF
    by_cases hi : i < ops.size
    · have := h i hi
      have hi' : i < li.size := by omega
      simpa [hi'] using this
    · have hi' : ¬ i < li.size := by omega
      simp [hi']
  intro fuel
  induction fuel with
  | zero =>
    intro li a w hsz hc hinv
    have hnone : ∀ i, i < ops.size → li.getD i false = true := by
      intro i hi
      have hi' : i < li.size := by omega
      have hb : li[i] ≠ false := by
        intro e
        have : false ∈ li.toList := by rw [← e]; simp
        have := List.count_pos_iff.2 this
        omega
      simp [hi', hb]
    refine ⟨?_, hend _ a w (htrue li hsz hnone) hinv.inv hinv.frD fun i hi => hinv.sat i (hnone i hi)⟩
    rw [List.eq_nil_iff_forall_not_mem]
    intro j hj
    obtain ⟨h1, o, ho, _⟩ := mem_ready.1 hj
    have hlt : j < ops.size := (Array.getElem?_eq_some_iff.1 ho).1
    have h2 := hnone j hlt
    have hj' : j < li.size := by omega
    simp [hj'] at h1 h2
    rw [h1] at h2
    cases h2
  | succ fuel ih =>
    intro li a w hsz hc hinv
    refine ⟨fun hr => hend _ a w (htrue li hsz (hall li hsz hr)) hinv.inv hinv.frD fun i hi => hinv.sat i (hall li hsz hr i hi), fun i hi => ?_⟩
    obtain ⟨h1, o, ho, hdeps⟩ := mem_ready.1 hi
    have hlt : i < ops.size := (Array.getElem?_eq_some_iff.1 ho).1
    have hlt' : i < li.size := by omega
    have hfalse : li[i] = false := by simpa [hlt'] using h1
    have hdt : ∀ e ∈ o.after, Region.binds .any e = true → lsF li e.on = true := by
      intro e he hb
      have h3 := hdeps e he hb
      have h4 : e.on < i := shapeD_back hsh ho e he hb
      have h5 : e.on < li.size := by omega
      unfold lsF
      simpa [h5] using h3
    have hs := hstep i o ho (lsF li) a w hinv.cl (by unfold lsF; simpa [hlt'] using hfalse) hinv.inv hinv.frD fun e he hb => ⟨hdt e he hb, hinv.sat e.on (hdeps e he hb)⟩
    have hcount : (li.setIfInBounds i true).toList.count false ≤ fuel := by
      rw [Array.toList_setIfInBounds, List.count_set (by simpa using hlt')]
      have : false ∈ li.toList := by rw [← hfalse]; simp
      have := List.count_pos_iff.2 this
      have e1 : li.toList[i]'(by simpa using hlt') = false := by simpa using hfalse
      rw [e1]
      have e2 : ((true : Bool) == false) = false := rfl
      simp only [beq_self_eq_true, if_true, e2, Bool.false_eq_true, if_false]
      omega
    have hdl : ∀ d, o.dst = some d → d < a.tmps.size := fun d hd => by rw [hinv.size]; exact shapeD_lt hsh ho hd
    have next : ∀ v w', J (upd (lsF li) i) (stepS o (slF a) v) w' → V i (slotD o v) → InvF ops a0 J V (li.setIfInBounds i true) (a.put o.dst v) w' := by
      intro v w' hJ hA
      refine ⟨by rw [lsF_set hlt', slF_put hdl]; exact hJ, ?_, by rw [defers_put]; exact hinv.def_, by rw [size_put]; exact hinv.size, ?_, ?_⟩
      · rw [lsF_set hlt']
        intro j oj hj hlj e he hb
        unfold upd at hlj ⊢
        by_cases hji : j = i
        · subst hji; rw [ho] at hj; cases hj
          split
          · rfl
          · exact hdt e he hb
        · rw [if_neg hji] at hlj
          split
          · rfl
          · exact hinv.cl j oj hj hlj e he hb
      · intro t ht
        have hne : o.dst ≠ some t := ht i o ho (getD_set_self hlt' false)
        have e1 : (a.put o.dst v).tmps.getD t undef = a.tmps.getD t undef := by
          cases hd : o.dst with
          | none => rfl
          | some d => exact getD_put_ne (by intro e; exact hne (by rw [hd, e]))
        rw [e1]
        exact hinv.fr t fun j oj hj hlj => by
          by_cases hij : i = j
          · subst hij; rw [ho] at hj; cases hj; exact hne
          · exact ht j oj hj (by rw [getD_set_ne' hij]; exact hlj)
      · intro j hj
        by_cases hij : i = j
        · subst hij
          intro oj hoj
          rw [ho] at hoj; cases hoj
          unfold slotD at hA
          cases hd : o.dst with
          | none => rw [hd] at hA; exact hA
          | some d =>
            simp only [getD_put_self (hdl d hd)]
            rw [hd] at hA
            exact hA
        · rw [getD_set_ne' hij] at hj
          intro oj hoj
          have h3 := hinv.sat j hj oj hoj
          have hval : (match oj.dst with | some d => (a.put o.dst v).tmps.getD d undef | none => undef) = (match oj.dst with | some d => a.tmps.getD d undef | none => undef) := by
            cases hd : o.dst with
            | none => rfl
            | some d =>
              cases hdj : oj.dst with
              | none => rfl
              | some d' =>
                have := shapeD_ne hsh ho hoj hij hd
                rw [hdj] at this
                exact getD_put_ne (by intro e; exact this (by rw [e]))
          rw [hval]
          exact h3
    unfold wpOp
    simp only [ho]
    by_cases hw : Region.wanted o (yielded ops a.tmps) = true
    · rw [if_pos hw] at hs ⊢
      exact .inl (hs.wp fun v w' ⟨hI, hA⟩ => ih _ _ _ (by simpa using hsz) hcount (next v w' hI hA))
    · rw [if_neg hw] at hs ⊢
      exact ih _ _ _ (by simpa using hsz) hcount (next undef w hs.1 (by unfold slotD; split <;> exact hs.2))
/-- The end, by the slots' values. -/
theorem putsD_of {l : List Oper} {a : Act} (hsh : shapeD a0.tmps.size l.toArray = true) (hF : FrD l.toArray a0 a) :
    a = putsD a0 l (l.map fun (o : Oper) => match o.dst with | some d => a.tmps.getD d undef | none => undef) := by
  let vs : List Value := l.map fun (o : Oper) => match o.dst with | some d => a.tmps.getD d undef | none => undef
  have hvl : vs.length = l.length := by simp [vs]
  show a = putsD a0 l vs
  have h1 : a.tmps = (putsD a0 l vs).tmps := by
    apply Array.ext
    · rw [putsD_size, hF.2.1]
    · intro t ht1 ht2
      have key : a.tmps.getD t undef = (putsD a0 l vs).tmps.getD t undef := by
        by_cases hex : ∃ (i : Nat) (o : Oper), l[i]? = some o ∧ o.dst = some t
        · obtain ⟨i, o, ho, hd⟩ := hex
          have hlt : t < a0.tmps.size := shapeD_lt hsh (i := i) (o := o) (by simpa using ho) hd
          refine (putsD_at l vs a0 i t o (a.tmps.getD t undef) hvl.symm ho ?_ hd hlt fun j o' hj ho' => ?_).symm
          · simp [vs, ho, hd]
          · exact shapeD_ne hsh (i := i) (j := j) (o := o) (o' := o') (by simpa using ho) (by simpa using ho') (Ne.symm hj) hd
        · rw [putsD_get l vs a0 t hvl.symm fun o ho hd => hex ?_]
          · exact hF.2.2 t fun i o ho hd => hex ⟨i, o, by simpa using ho, hd⟩
          · obtain ⟨j, hj, e⟩ := List.mem_iff_getElem.1 ho
            exact ⟨j, o, by rw [List.getElem?_eq_getElem hj, e], hd⟩
      simpa [ht1, ht2] using key
  have h2 : a.defers = (putsD a0 l vs).defers := by rw [putsD_defers, hF.1]
  cases a
  generalize hp : putsD a0 l vs = b at *
  cases b
  simp_all
/-- The slots behind the region. -/
def stepsS : List Oper → (Nat → Value) → List Value → (Nat → Value)
  | o :: l, s, v :: vs => stepsS l (stepS o s v) vs
  | _, s, _ => s
theorem slF_putsD : ∀ (l : List Oper) (vs : List Value) (a : Act), (∀ o ∈ l, ∀ d, o.dst = some d → d < a.tmps.size) → slF (putsD a l vs) = stepsS l (slF a) vs
  | [], vs, a, _ => by cases vs <;> rfl
  | o :: l, [], a, _ => rfl
  | o :: l, v :: vs, a, h => by
    have ih := slF_putsD l vs (a.put o.dst v) fun o' ho' d hd => by rw [size_put]; exact h o' (List.mem_cons_of_mem _ ho') d hd
    rw [slF_put (h o List.mem_cons_self)] at ih
    exact ih
/-- What operation i of the region has to show. -/
def ShowF (P : Program) (l : List Oper) (a0 : Act) (J : (Nat → Bool) → (Nat → Value) → World → Prop) (V : List (Value → Prop)) (i : Nat) (o : Oper) : Prop :=
  ∀ li a w, closedF l.toArray li → li i = false → J li (slF a) w → FrD l.toArray a0 a → (∀ e ∈ o.after, Region.binds .any e = true → li e.on = true ∧ SatF l.toArray (fun i => V.getD i fun _ => True) a e.on) →
    if Region.wanted o (yielded l.toArray a.tmps) then OpOK P o a w (fun v w' => J (upd li i) (stepS o (slF a) v) w' ∧ (V.getD i fun _ => True) (slotD o v)) else J (upd li i) (stepS o (slF a) undef) w ∧ (V.getD i fun _ => True) undef
/-- What holds behind the region: the slots' values, one by one. -/
def endF : List (Value → Prop) → (List Value → Prop) → Prop
  | [], Q => Q []
  | A :: L, Q => ∀ v, A v → endF L fun vs => Q (v :: vs)
theorem endF_get : ∀ (L : List (Value → Prop)) (Q : List Value → Prop), endF L Q → ∀ vs : List Value, vs.length = L.length → (∀ i v, vs[i]? = some v → (L.getD i fun _ => True) v) → Q vs
  | [], Q, h, vs, hl, _ => by
    have : vs = [] := List.eq_nil_of_length_eq_zero (by simpa using hl)
    subst this; exact h
  | A :: L, Q, h, vs, hl, hs => by
    cases vs with
    | nil => simp at hl
    | cons v vs =>
      exact endF_get L (fun vs => Q (v :: vs)) (h v (hs 0 v rfl)) vs (by simpa using hl) fun i u hu => by
        have := hs (i + 1) u (by simpa using hu)
        simpa using this
theorem wp_region_F {id : Nat} {l : List Oper} (V : List (Value → Prop)) (J : (Nat → Bool) → (Nat → Value) → World → Prop) (hm : P.follows .mixedOrders = true)
    (hsh : shapeD a0.tmps.size l.toArray = true) (hlen : V.length = l.length) (h0 : J (fun i => decide (l.length ≤ i)) (slF a0) w.drew)
    (hstep : eachD (ShowF P l a0 J V) 0 l)
    (hend : endF V fun vs => ∀ w', J (fun _ => true) (stepsS l (slF a0) vs) w' → Q .normal (putsD a0 l vs) w') : (Code.region id l.toArray true).wp P Q a0 w := by
  refine wp_region_any hm ?_
  refine wpAny_F (J := J) (V := fun i => V.getD i fun _ => True) hsh (fun i o ho li a w1 hc hi hJ hF hS => ?_) (fun li a w1 hl hJ hF hS => ?_) _ _ _ _ (by simp) ?_ ⟨?_, ?_, rfl, rfl, fun _ _ => rfl, fun i hi => ?_⟩
  · have := eachD_get _ l 0 hstep i o (by simpa using ho) li a w1 hc (by rw [Nat.zero_add]; exact hi) hJ hF hS
    rw [Nat.zero_add] at this
    exact this
  · have e : li = fun _ => true := funext hl
    subst e
    have hp := putsD_of hsh hF
    have hend' := endF_get V _ hend (l.map fun (o : Oper) => match o.dst with | some d => a.tmps.getD d undef | none => undef) (by rw [List.length_map, hlen]) (fun i v hv => by
      have hi : i < l.length := by
        have := (List.getElem?_eq_some_iff.1 hv).1
        simpa using this
      have h3 := hS i (by simpa using hi) l[i] (by simp [hi])
      simp only [List.getElem?_map, List.getElem?_eq_getElem hi, Option.map_some, Option.some.injEq] at hv
      rw [← hv]; exact h3) w1
    rw [← slF_putsD l _ a0 (fun o ho d hd => by
      obtain ⟨j, hj, e⟩ := List.mem_iff_getElem.1 ho
      exact shapeD_lt hsh (i := j) (o := o) (by simp [hj, e]) hd), ← hp] at hend'
    exact hend' hJ
  · rw [Array.toList_replicate, List.count_replicate_self]; exact Nat.le_refl _
  · have e : lsF (Array.replicate l.toArray.size false) = fun i => decide (l.length ≤ i) := by
      funext i
      unfold lsF
      by_cases hi : i < l.length
      · have : ¬ l.length ≤ i := by omega
        simp [hi, this]
      · have : l.length ≤ i := by omega
        simp [hi, this]
    rw [e]; exact h0
  · intro i o ho hl
    exfalso
    unfold lsF at hl
    have hi : i < l.length := by
      have := (Array.getElem?_eq_some_iff.1 ho).1
      simpa using this
    simp [hi] at hl
  · exfalso
    rw [Array.getD_eq_getD_getElem?, Array.getElem?_replicate] at hi
    split at hi <;> simp at hi
/-- The block that a pointer names. -/
def blkF : Value → Nat
  | .pointer (some ad) => ad.block
  | _ => 0
def isPtr (v : Value) : Prop := ∃ g, v = .pointer (some ⟨g, 0, none⟩)
def optB (b : Bool) (p : Nat × Obj) (l : List (Nat × Obj)) : List (Nat × Obj) := match b with | true => p :: l | false => l
def selO (b : Bool) (o o' : Obj) : Obj := match b with | true => o' | false => o
theorem optB_f (p : Nat × Obj) (l : List (Nat × Obj)) : optB false p l = l := rfl
theorem Own.opt {b : Bool} {p : Nat × Obj} {l : List (Nat × Obj)} {g : Nat} {o : Obj} (h : Own l g o) : Own (optB b p l) g o := by
  cases b with
  | true => exact .there h
  | false => exact h
theorem Turn.opt {b : Bool} {p : Nat × Obj} {l l' : List (Nat × Obj)} {g : Nat} {o o' : Obj} (h : Turn l g o o' l') : Turn (optB b p l) g o o' (optB b p l') := by
  cases b with
  | true => exact .there h
  | false => exact h
theorem optB_perm {b : Bool} {p q : Nat × Obj} {l : List (Nat × Obj)} : (q :: optB b p l).Perm (optB b p (q :: l)) := by
  cases b with
  | true => exact List.Perm.swap p q l
  | false => exact List.Perm.refl _
theorem closedF.off {l : Nat → Bool} {i j : Nat} (hc : closedF ops l) (hw : waits ops j i = true) (hi : l i = false) : l j = false := by
  cases hj : l j with
  | false => rfl
  | true =>
    exfalso
    unfold waits at hw
    cases ho : ops[j]? with
    | none => rw [ho] at hw; simp at hw
    | some o =>
      rw [ho] at hw
      simp only [Option.map_some, Option.getD_some, List.any_eq_true, Bool.and_eq_true, decide_eq_true_eq] at hw
      obtain ⟨e, he, hb, rfl⟩ := hw
      rw [hc j o ho hj e (Array.mem_toList_iff.1 he) hb] at hi
      cases hi
end
end Go.Proofs.Ytgkfopodhikckaa

