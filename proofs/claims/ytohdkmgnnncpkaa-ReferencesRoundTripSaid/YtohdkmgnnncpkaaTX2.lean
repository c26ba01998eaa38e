/- Print of the reference; the Builder's WriteString, Grow; Join. Condition: texts of at most a hundred thousand bytes. -/
import Derived.Test.YtohdkmgnnncpkaaTX1
import Derived.Lib.AppendStr
import Derived.Lib.MakeNoZero
set_option linter.unusedSimpArgs false
set_option linter.unusedVariables false
namespace Go.Proofs.Ytohdkmgnnncpkaa
open Go.RowKit
/-- Texts with something between them. -/
def joinS (sep : List UInt8) : List (List UInt8) → List UInt8
  | [] => []
  | [x] => x
  | x :: y :: r => x ++ sep ++ joinS sep (y :: r)
theorem joinS_snoc (sep : List UInt8) : ∀ (l : List (List UInt8)) (x : List UInt8), l ≠ [] → joinS sep (l ++ [x]) = joinS sep l ++ sep ++ x
  | [], _, h => absurd rfl h
  | [y], x, _ => rfl
  | y :: z :: r, x, _ => by
    show y ++ sep ++ joinS sep ((z :: r) ++ [x]) = y ++ sep ++ joinS sep (z :: r) ++ sep ++ x
    rw [joinS_snoc sep (z :: r) x (by simp)]
    simp only [List.append_assoc]
def texts (l : List Id) : List (List UInt8) := l.map textL
def printL (l : List Id) : List UInt8 := joinS [32] (texts l)
theorem printL_len : ∀ l : List Id, (printL l).length ≤ 72 * l.length
  | [] => by simp [printL, texts, joinS]
  | [x] => by simp only [printL, texts, List.map_cons, List.map_nil, joinS, textL_len]; simp
  | x :: y :: r => by
    have := printL_len (y :: r)
    simp only [printL, texts, List.map_cons, joinS, List.length_append, textL_len, List.length_cons] at this ⊢
    simp only [List.length_nil]
    omega
theorem printL_zero {l : List Id} (h : 0 < l.length) : printL (l.take 0) ++ textL l[0] = printL (l.take 1) := by
  match l, h with
  | x :: r, _ => rfl
theorem printL_step {l : List Id} {k : Nat} (h : k < l.length) (h0 : 0 < k) : printL (l.take k) ++ [32] ++ textL l[k] = printL (l.take (k + 1)) := by
  rw [← List.take_append_getElem h]
  unfold printL texts
  rw [List.map_append, List.map_cons, List.map_nil, joinS_snoc _ _ _ (by
    intro e
    have := congrArg List.length e
    simp only [List.length_map, List.length_take, List.length_nil] at this
    omega)]
def RetT (w : World) (s : List UInt8) (c : Int) (e : Ending) (w' : World) : Prop := e = .returned (.tuple #[str s, .int .i64 c]) ∧ Below w.heap.size w w'
theorem RetT.mk {w w' : World} {s t : List UInt8} {c : Int} (h : t = s) (hb : Below w.heap.size w w') : RetT w s c (.returned (.tuple #[str t, .int .i64 c])) w' := ⟨by rw [h], hb⟩
/-- What Print answers. -/
def printV (l : List Id) : List UInt8 := if checkE l = 0 then printL l else []
def RPRel (w : World) (l : List Id) (s i : Value) (wr : World) : Prop :=
  ∃ k : Nat, k ≤ l.length ∧ i = .int .i64 k ∧ s = str (printL (l.take k)) ∧ Holds w [] [] [] wr
theorem checkE_len {l : List Id} (h : checkE l = 0) : l.length ≤ 20 := by
  unfold checkE at h
  split at h
  · cases h
  · omega
set_option maxRecDepth 100000 in
set_option maxHeartbeats 2000000 in
theorem refPrint_any (w : World) (v : Value) (l : List Id) (hl : Ids w v l) (hn : l.length ≤ 9223372036854775807) : Calls Try.prog 28 #[v] w (RetT w (printV l) (checkE l)) := by
  obtain ⟨ao, cap, rfl, _⟩ := hl.shape
  have HL := hid hl
  clear hl
  have HH := hid (Holds.init w)
  by_cases hc : checkE l = 0
  · have e1 : printV l = printL l := by unfold printV; rw [if_pos hc]
    rw [e1, hc]
    have HC := hid hc
    have h20 := checkE_len hc
    clear e1 hc
    go_enter Try.func28, Try.ntmps28
    go_wp2_with (first
      | ((first
          | ((with_reducible apply wpL_skip); rfl; skip)
          | (go_at_call 36; (with_reducible refine (checkR_any _ _ l (HH.out.sl HL.out) hn).mono ?_); rw [HC.out]; rintro e_ w2_ ⟨rfl, hb_⟩; (have hq_ := HH.out.grow hb_); clear HH; have HH := hid hq_; clear hq_ hb_)
          | ((with_reducible apply wpL_nilCheck); rfl; rfl)
          | ((with_reducible apply wpL_loadArr (t := 38) kA38 HH.out); rfl; (first | exact .here | exact .there .here | exact .there (.there .here) | exact .there (.there (.there .here)) | exact .there (.there (.there (.there .here))) | exact .there (.there (.there (.there (.there .here)))) | exact .there (.there (.there (.there (.there (.there .here))))) | exact .there (.there (.there (.there (.there (.there (.there .here))))))); rfl)
          | ((with_reducible apply wpL_loadC (t := 38) kA38 HH.out); rfl; (first | exact .here | exact .there .here | exact .there (.there .here) | exact .there (.there (.there .here)) | exact .there (.there (.there (.there .here))) | exact .there (.there (.there (.there (.there .here)))) | exact .there (.there (.there (.there (.there (.there .here))))) | exact .there (.there (.there (.there (.there (.there (.there .here))))))); (first | rfl | exact Arr.len _ | (simp; done)); rfl)
          | ((with_reducible apply wpL_len (t := 22) Try.underlying22); rfl; rfl)
          | ((with_reducible apply wpL_move); rfl; rfl)
          | ((with_reducible apply wpL_assign); rfl; rfl)
          | ((with_reducible apply wpL_pick); rfl; rfl; rfl)
          | ((with_reducible apply wpL_not); rfl; rfl)
          | ((with_reducible apply wpL_cmp (b := true)); rfl; rfl; rfl; (first | rfl | assumption | (simp only [cmpB, decide_eq_true_eq, decide_eq_false_iff_not, beq_iff_eq, bne_iff_ne, ne_eq, beq_eq_false_iff_ne, bne_eq_false_iff_eq, gt_iff_lt, ge_iff_le]; omega) | (simp; omega)); rfl)
          | ((with_reducible apply wpL_cmp (b := false)); rfl; rfl; rfl; (first | rfl | assumption | (simp only [cmpB, decide_eq_true_eq, decide_eq_false_iff_not, beq_iff_eq, bne_iff_ne, ne_eq, beq_eq_false_iff_ne, bne_eq_false_iff_eq, gt_iff_lt, ge_iff_le]; omega) | (simp; omega)); rfl)
          | ((with_reducible apply wpL_cmp); rfl; rfl; rfl; rfl; rfl)
          | ((with_reducible apply wpL_arith); rfl; rfl; rfl; (exact IntWalk.i64_in _ (by (try simp only [arithI]); omega)); rfl)); (try simp only [arithI, Act.put, Act.eval, List.setIfInBounds_toArray, List.set_cons_succ, List.set_cons_zero, Array.getD_eq_getD_getElem?, List.getElem?_toArray, List.getElem?_cons_succ, List.getElem?_cons_zero, Option.getD_some])))
    go_loopw [5, 6] (RPRel w l) (fun _ i _ => l.length - (intOf i).toNat)
    case atStart => exact ⟨0, Nat.zero_le _, rfl, rfl, HH.out⟩
    case round =>
      obtain ⟨k, hk, rfl, rfl, hr⟩ := hrel
      clear HH
      have HH := hid hr
      clear hr
      have hpl := printL_len (l.take k)
      rw [List.length_take] at hpl
      by_cases hlt : k < l.length
      · obtain ⟨ad, cap', e⟩ := HL.out.some (by omega)
        cases e
        obtain ⟨s, hs⟩ : ∃ s, printL (l.take k) = s := ⟨_, rfl⟩
        have hsl : s.length ≤ 2000 := by rw [← hs]; omega
        have HX := hid (textL_len l[k])
        by_cases h0 : 0 < k
        · have HST := hid (printL_step hlt h0)
          rw [hs] at HST
          rw [hs]
          clear hs hpl
          go_wp2_with (first
            | ((first
                | ((with_reducible apply wpL_skip); rfl; skip)
                | ((with_reducible apply wpL_addStr (dst := some 21) (l := s) (m := [32]) (r := s ++ [32])); rfl; rfl; (exact (by simp; omega)); rfl; rfl)
                | ((with_reducible apply wpL_idx (j := k) E22); rfl; rfl; rfl; (exact hlt); rfl)
                | ((with_reducible apply wpL_loadEl (v := l[k]) A38 (Ids.get (HH.out.sl HL.out) k hlt)); rfl; rfl)
                | (go_at_call 44; (first | ((have hcall_ := hid (text_any _ l[k])); (with_reducible refine hcall_.out.mono ?_); clear hcall_) | (with_reducible refine (text_any _ l[k]).mono ?_)); rintro e_ w2_ ⟨rfl, hb_⟩; (have hq_ := HH.out.grow hb_); clear HH; have HH := hid hq_; clear hq_ hb_)
                | ((with_reducible apply wpL_addStr (dst := some 28) (l := s ++ [32]) (m := textL l[k]) (r := printL (l.take (k + 1)))); rfl; rfl; (exact (by simp [HX.out]; omega)); (exact HST.out); rfl)
                | ((with_reducible apply wpL_nilCheck); rfl; rfl)
                | ((with_reducible apply wpL_loadArr (t := 38) kA38 HH.out); rfl; (first | exact .here | exact .there .here | exact .there (.there .here) | exact .there (.there (.there .here)) | exact .there (.there (.there (.there .here))) | exact .there (.there (.there (.there (.there .here)))) | exact .there (.there (.there (.there (.there (.there .here))))) | exact .there (.there (.there (.there (.there (.there (.there .here))))))); rfl)
                | ((with_reducible apply wpL_loadC (t := 38) kA38 HH.out); rfl; (first | exact .here | exact .there .here | exact .there (.there .here) | exact .there (.there (.there .here)) | exact .there (.there (.there (.there .here))) | exact .there (.there (.there (.there (.there .here)))) | exact .there (.there (.there (.there (.there (.there .here))))) | exact .there (.there (.there (.there (.there (.there (.there .here))))))); (first | rfl | exact Arr.len _ | (simp; done)); rfl)
                | ((with_reducible apply wpL_len (t := 22) Try.underlying22); rfl; rfl)
                | ((with_reducible apply wpL_move); rfl; rfl)
                | ((with_reducible apply wpL_assign); rfl; rfl)
                | ((with_reducible apply wpL_pick); rfl; rfl; rfl)
                | ((with_reducible apply wpL_not); rfl; rfl)
                | ((with_reducible apply wpL_cmp (b := true)); rfl; rfl; rfl; (first | rfl | assumption | (simp only [cmpB, decide_eq_true_eq, decide_eq_false_iff_not, beq_iff_eq, bne_iff_ne, ne_eq, beq_eq_false_iff_ne, bne_eq_false_iff_eq, gt_iff_lt, ge_iff_le]; omega) | (simp; omega)); rfl)
                | ((with_reducible apply wpL_cmp (b := false)); rfl; rfl; rfl; (first | rfl | assumption | (simp only [cmpB, decide_eq_true_eq, decide_eq_false_iff_not, beq_iff_eq, bne_iff_ne, ne_eq, beq_eq_false_iff_ne, bne_eq_false_iff_eq, gt_iff_lt, ge_iff_le]; omega) | (simp; omega)); rfl)
                | ((with_reducible apply wpL_cmp); rfl; rfl; rfl; rfl; rfl)
                | ((with_reducible apply wpL_arith); rfl; rfl; rfl; (exact IntWalk.i64_in _ (by (try simp only [arithI]); omega)); rfl)); (try simp only [arithI, Act.put, Act.eval, List.setIfInBounds_toArray, List.set_cons_succ, List.set_cons_zero, Array.getD_eq_getD_getElem?, List.getElem?_toArray, List.getElem?_cons_succ, List.getElem?_cons_zero, Option.getD_some])))
          go_roundw
          case rel => exact ⟨k + 1, by omega, by go_num, rfl, HH.out⟩
          case measure => simp [intOf]; omega
        · obtain rfl : k = 0 := by omega
          have HST := hid (printL_zero hlt)
          rw [hs] at HST
          rw [hs]
          clear hs hpl
          go_wp2_with (first
            | ((first
                | ((with_reducible apply wpL_skip); rfl; skip)
                | ((with_reducible apply wpL_idx (j := 0) E22); rfl; rfl; rfl; (exact hlt); rfl)
                | ((with_reducible apply wpL_loadEl (v := l[0]) A38 (Ids.get (HH.out.sl HL.out) 0 hlt)); rfl; rfl)
                | (go_at_call 44; (first | ((have hcall_ := hid (text_any _ l[0])); (with_reducible refine hcall_.out.mono ?_); clear hcall_) | (with_reducible refine (text_any _ l[0]).mono ?_)); rintro e_ w2_ ⟨rfl, hb_⟩; (have hq_ := HH.out.grow hb_); clear HH; have HH := hid hq_; clear hq_ hb_)
                | ((with_reducible apply wpL_addStr (dst := some 28) (l := s) (m := textL l[0]) (r := printL (l.take (0 + 1)))); rfl; rfl; (exact (by simp [HX.out]; omega)); (exact HST.out); rfl)
                | ((with_reducible apply wpL_nilCheck); rfl; rfl)
                | ((with_reducible apply wpL_loadArr (t := 38) kA38 HH.out); rfl; (first | exact .here | exact .there .here | exact .there (.there .here) | exact .there (.there (.there .here)) | exact .there (.there (.there (.there .here))) | exact .there (.there (.there (.there (.there .here)))) | exact .there (.there (.there (.there (.there (.there .here))))) | exact .there (.there (.there (.there (.there (.there (.there .here))))))); rfl)
                | ((with_reducible apply wpL_loadC (t := 38) kA38 HH.out); rfl; (first | exact .here | exact .there .here | exact .there (.there .here) | exact .there (.there (.there .here)) | exact .there (.there (.there (.there .here))) | exact .there (.there (.there (.there (.there .here)))) | exact .there (.there (.there (.there (.there (.there .here))))) | exact .there (.there (.there (.there (.there (.there (.there .here))))))); (first | rfl | exact Arr.len _ | (simp; done)); rfl)
                | ((with_reducible apply wpL_len (t := 22) Try.underlying22); rfl; rfl)
                | ((with_reducible apply wpL_move); rfl; rfl)
                | ((with_reducible apply wpL_assign); rfl; rfl)
                | ((with_reducible apply wpL_pick); rfl; rfl; rfl)
                | ((with_reducible apply wpL_not); rfl; rfl)
                | ((with_reducible apply wpL_cmp (b := true)); rfl; rfl; rfl; (first | rfl | assumption | (simp only [cmpB, decide_eq_true_eq, decide_eq_false_iff_not, beq_iff_eq, bne_iff_ne, ne_eq, beq_eq_false_iff_ne, bne_eq_false_iff_eq, gt_iff_lt, ge_iff_le]; omega) | (simp; omega)); rfl)
                | ((with_reducible apply wpL_cmp (b := false)); rfl; rfl; rfl; (first | rfl | assumption | (simp only [cmpB, decide_eq_true_eq, decide_eq_false_iff_not, beq_iff_eq, bne_iff_ne, ne_eq, beq_eq_false_iff_ne, bne_eq_false_iff_eq, gt_iff_lt, ge_iff_le]; omega) | (simp; omega)); rfl)
                | ((with_reducible apply wpL_cmp); rfl; rfl; rfl; rfl; rfl)
                | ((with_reducible apply wpL_arith); rfl; rfl; rfl; (exact IntWalk.i64_in _ (by (try simp only [arithI]); omega)); rfl)); (try simp only [arithI, Act.put, Act.eval, List.setIfInBounds_toArray, List.set_cons_succ, List.set_cons_zero, Array.getD_eq_getD_getElem?, List.getElem?_toArray, List.getElem?_cons_succ, List.getElem?_cons_zero, Option.getD_some])))
          go_roundw
          case rel => exact ⟨1, by omega, by go_num, rfl, HH.out⟩
          case measure => simp [intOf]; omega
      · have HE := hid (show printL (l.take k) = printL l by rw [List.take_of_length_le (by omega)])
        go_wp2_with (first
          | ((first
              | ((with_reducible apply wpL_skip); rfl; skip)
              | ((with_reducible apply wpL_nilCheck); rfl; rfl)
              | ((with_reducible apply wpL_loadArr (t := 38) kA38 HH.out); rfl; (first | exact .here | exact .there .here | exact .there (.there .here) | exact .there (.there (.there .here)) | exact .there (.there (.there (.there .here))) | exact .there (.there (.there (.there (.there .here)))) | exact .there (.there (.there (.there (.there (.there .here))))) | exact .there (.there (.there (.there (.there (.there (.there .here))))))); rfl)
              | ((with_reducible apply wpL_loadC (t := 38) kA38 HH.out); rfl; (first | exact .here | exact .there .here | exact .there (.there .here) | exact .there (.there (.there .here)) | exact .there (.there (.there (.there .here))) | exact .there (.there (.there (.there (.there .here)))) | exact .there (.there (.there (.there (.there (.there .here))))) | exact .there (.there (.there (.there (.there (.there (.there .here))))))); (first | rfl | exact Arr.len _ | (simp; done)); rfl)
              | ((with_reducible apply wpL_len (t := 22) Try.underlying22); rfl; rfl)
              | ((with_reducible apply wpL_move); rfl; rfl)
              | ((with_reducible apply wpL_assign); rfl; rfl)
              | ((with_reducible apply wpL_pick); rfl; rfl; rfl)
              | ((with_reducible apply wpL_not); rfl; rfl)
              | ((with_reducible apply wpL_cmp (b := true)); rfl; rfl; rfl; (first | rfl | assumption | (simp only [cmpB, decide_eq_true_eq, decide_eq_false_iff_not, beq_iff_eq, bne_iff_ne, ne_eq, beq_eq_false_iff_ne, bne_eq_false_iff_eq, gt_iff_lt, ge_iff_le]; omega) | (simp; omega)); rfl)
              | ((with_reducible apply wpL_cmp (b := false)); rfl; rfl; rfl; (first | rfl | assumption | (simp only [cmpB, decide_eq_true_eq, decide_eq_false_iff_not, beq_iff_eq, bne_iff_ne, ne_eq, beq_eq_false_iff_ne, bne_eq_false_iff_eq, gt_iff_lt, ge_iff_le]; omega) | (simp; omega)); rfl)
              | ((with_reducible apply wpL_cmp); rfl; rfl; rfl; rfl; rfl)
              | ((with_reducible apply wpL_arith); rfl; rfl; rfl; (exact IntWalk.i64_in _ (by (try simp only [arithI]); omega)); rfl)); (try simp only [arithI, Act.put, Act.eval, List.setIfInBounds_toArray, List.set_cons_succ, List.set_cons_zero, Array.getD_eq_getD_getElem?, List.getElem?_toArray, List.getElem?_cons_succ, List.getElem?_cons_zero, Option.getD_some])))
        go_ret2
        exact RetT.mk HE.out HH.out.below
  · have e1 : printV l = [] := by unfold printV; rw [if_neg hc]
    rw [e1]
    have hb : (checkE l != 0) = true := by simpa using hc
    clear e1 hc
    go_enter Try.func28, Try.ntmps28
    go_wp2_with (first
      | ((first
          | ((with_reducible apply wpL_skip); rfl; skip)
          | (go_at_call 36; (with_reducible refine (checkR_any _ _ l (HH.out.sl HL.out) hn).mono ?_); rintro e_ w2_ ⟨rfl, hb_⟩; (have hq_ := HH.out.grow hb_); clear HH; have HH := hid hq_; clear hq_ hb_)
          | ((with_reducible apply wpL_nilCheck); rfl; rfl)
          | ((with_reducible apply wpL_loadArr (t := 38) kA38 HH.out); rfl; (first | exact .here | exact .there .here | exact .there (.there .here) | exact .there (.there (.there .here)) | exact .there (.there (.there (.there .here))) | exact .there (.there (.there (.there (.there .here)))) | exact .there (.there (.there (.there (.there (.there .here))))) | exact .there (.there (.there (.there (.there (.there (.there .here))))))); rfl)
          | ((with_reducible apply wpL_loadC (t := 38) kA38 HH.out); rfl; (first | exact .here | exact .there .here | exact .there (.there .here) | exact .there (.there (.there .here)) | exact .there (.there (.there (.there .here))) | exact .there (.there (.there (.there (.there .here)))) | exact .there (.there (.there (.there (.there (.there .here))))) | exact .there (.there (.there (.there (.there (.there (.there .here))))))); (first | rfl | exact Arr.len _ | (simp; done)); rfl)
          | ((with_reducible apply wpL_len (t := 22) Try.underlying22); rfl; rfl)
          | ((with_reducible apply wpL_move); rfl; rfl)
          | ((with_reducible apply wpL_assign); rfl; rfl)
          | ((with_reducible apply wpL_pick); rfl; rfl; rfl)
          | ((with_reducible apply wpL_not); rfl; rfl)
          | ((with_reducible apply wpL_cmp (b := true)); rfl; rfl; rfl; (first | rfl | assumption | (simp only [cmpB, decide_eq_true_eq, decide_eq_false_iff_not, beq_iff_eq, bne_iff_ne, ne_eq, beq_eq_false_iff_ne, bne_eq_false_iff_eq, gt_iff_lt, ge_iff_le]; omega) | (simp; omega)); rfl)
          | ((with_reducible apply wpL_cmp (b := false)); rfl; rfl; rfl; (first | rfl | assumption | (simp only [cmpB, decide_eq_true_eq, decide_eq_false_iff_not, beq_iff_eq, bne_iff_ne, ne_eq, beq_eq_false_iff_ne, bne_eq_false_iff_eq, gt_iff_lt, ge_iff_le]; omega) | (simp; omega)); rfl)
          | ((with_reducible apply wpL_cmp); rfl; rfl; rfl; rfl; rfl)
          | ((with_reducible apply wpL_arith); rfl; rfl; rfl; (exact IntWalk.i64_in _ (by (try simp only [arithI]); omega)); rfl)); (try simp only [arithI, Act.put, Act.eval, List.setIfInBounds_toArray, List.set_cons_succ, List.set_cons_zero, Array.getD_eq_getD_getElem?, List.getElem?_toArray, List.getElem?_cons_succ, List.getElem?_cons_zero, Option.getD_some])))
    go_ret2
    exact RetT.mk rfl HH.out.below
end Go.Proofs.Ytohdkmgnnncpkaa
