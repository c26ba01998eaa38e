/- The list that a text denotes; Parse of the reference. Condition: a text of at most 3000 bytes. -/
import Derived.Test.YtohdkmgnnncpkaaTX9
import Derived.Test.YtohdkmgnnncpkaaRA
set_option linter.unusedSimpArgs false
set_option linter.unusedVariables false
namespace Go.Proofs.Ytohdkmgnnncpkaa
open Go.RowKit
attribute [local irreducible] wpQuiet wpList
/-- Where a word ends. -/
def tokEnd (s : List UInt8) (i : Nat) : Nat := i + ((s.drop i).takeWhile fun c => !blankB c).length
def tokL (s : List UInt8) (i : Nat) : List UInt8 := (s.drop i).takeWhile fun c => !blankB c
theorem tok_end {s : List UInt8} {i k : Nat} (h1 : i ≤ k) (h2 : k ≤ s.length) (ha : ∀ j, i ≤ j → j < k → blankB (s.getD j 0) = false) (he : k < s.length → blankB (s.getD k 0) = true) : tokEnd s i = k ∧ (s.drop i).take (k - i) = tokL s i := by
  have e1 : s.drop i = (s.drop i).take (k - i) ++ s.drop k := by
    conv => lhs; rw [← List.take_append_drop (k - i) (s.drop i)]
    rw [List.drop_drop, show i + (k - i) = k by omega]
  have e2 : (s.drop k).takeWhile (fun c => !blankB c) = [] := by
    rcases Nat.lt_or_ge k s.length with h | h
    · rw [List.drop_eq_getElem_cons h, List.takeWhile_cons]
      have := he h
      rw [List.getD_eq_getElem?_getD, List.getElem?_eq_getElem h, Option.getD_some] at this
      rw [this]; rfl
    · rw [List.drop_eq_nil_of_le h]; rfl
  have e3 : tokL s i = (s.drop i).take (k - i) := by
    unfold tokL
    conv => lhs; rw [e1]
    rw [List.takeWhile_append_of_pos, e2, List.append_nil]
    intro c hc
    obtain ⟨j, hj⟩ := List.mem_iff_getElem?.1 hc
    rw [List.getElem?_take] at hj
    split at hj
    · rename_i hjk
      rw [List.getElem?_drop] at hj
      have := ha (i + j) (by omega) (by omega)
      rw [List.getD_eq_getElem?_getD, hj, Option.getD_some] at this
      rw [this]; rfl
    · cases hj
  refine ⟨?_, e3.symm⟩
  unfold tokEnd
  have : ((s.drop i).takeWhile fun c => !blankB c) = tokL s i := rfl
  rw [this, e3, List.length_take, List.length_drop]
  omega
theorem tokEnd_gt {s : List UInt8} {i : Nat} (h : i < s.length) (hb : blankB (s.getD i 0) = false) : i < tokEnd s i := by
  unfold tokEnd
  rw [List.getD_eq_getElem?_getD, List.getElem?_eq_getElem h, Option.getD_some] at hb
  rw [List.drop_eq_getElem_cons h, List.takeWhile_cons, hb]
  simp
/-- The list, the place and the error. -/
abbrev POut := List Id × Nat × Int
def parseN (s : List UInt8) : Nat → Nat → List Id → POut
  | 0, _, out => (out, 0, 0)
  | f + 1, i, out =>
    if i < s.length then
      if blankB (s.getD i 0) then parseN s f (i + 1) out
      else if out.length = 20 then ([], i, 9)
      else match identL (tokL s i) with
        | none => ([], i, 3)
        | some x => if addE out x = 0 then parseN s f (tokEnd s i) (out ++ [x]) else ([], i, addE out x)
    else (out, 0, 0)
theorem parseN_fuel (s : List UInt8) : ∀ (f f' i : Nat) (out : List Id), s.length - i ≤ f → s.length - i ≤ f' → parseN s f i out = parseN s f' i out
  | 0, 0, _, _, _, _ => rfl
  | 0, f' + 1, i, out, h, _ => by
    rw [parseN, parseN, if_neg (by omega)]
  | f + 1, 0, i, out, _, h => by
    rw [parseN, parseN, if_neg (by omega)]
  | f + 1, f' + 1, i, out, h1, h2 => by
    rw [parseN, parseN]
    split
    · rename_i hi
      split
      · exact parseN_fuel s f f' _ _ (by omega) (by omega)
      · rename_i hb
        have hgt := tokEnd_gt hi (by simpa using hb)
        split
        · rfl
        · split
          · rfl
          · split
            · exact parseN_fuel s f f' _ _ (by omega) (by omega)
            · rfl
    · rfl
def parseL (s : List UInt8) (i : Nat) (out : List Id) : POut := parseN s (s.length - i) i out
theorem parse_end {s : List UInt8} {i : Nat} {out : List Id} (h : ¬ i < s.length) : parseL s i out = (out, 0, 0) := by
  unfold parseL
  rw [show s.length - i = 0 by omega, parseN]
theorem parse_un {s : List UInt8} {i : Nat} {out : List Id} (h : i < s.length) : parseL s i out =
      if blankB (s.getD i 0) then parseL s (i + 1) out
      else if out.length = 20 then ([], i, 9)
      else match identL (tokL s i) with
        | none => ([], i, 3)
        | some x => if addE out x = 0 then parseL s (tokEnd s i) (out ++ [x]) else ([], i, addE out x) := by
  unfold parseL
  conv => lhs; rw [show s.length - i = (s.length - (i + 1)) + 1 by omega, parseN, if_pos h]
  split
  · rfl
  · rename_i hb
    have hgt := tokEnd_gt h (by simpa using hb)
    split
    · rfl
    · split
      · rfl
      · split
        · exact parseN_fuel s _ _ _ _ (by omega) (by omega)
        · rfl
theorem parse_blank {s : List UInt8} {i : Nat} {out : List Id} (h : i < s.length) (hb : blankB (s.getD i 0) = true) : parseL s i out = parseL s (i + 1) out := by
  rw [parse_un h, if_pos hb]
theorem parse_full {s : List UInt8} {i : Nat} {out : List Id} (h : i < s.length) (hb : blankB (s.getD i 0) = false) (hl : out.length = 20) : parseL s i out = ([], i, 9) := by
  rw [parse_un h, if_neg (by rw [hb]; decide), if_pos hl]
theorem parse_bad {s : List UInt8} {i : Nat} {out : List Id} (h : i < s.length) (hb : blankB (s.getD i 0) = false) (hl : out.length ≠ 20) (hx : identL (tokL s i) = none) : parseL s i out = ([], i, 3) := by
  rw [parse_un h, if_neg (by rw [hb]; decide), if_neg hl, hx]
theorem parse_no {s : List UInt8} {i : Nat} {out : List Id} {x : Id} (h : i < s.length) (hb : blankB (s.getD i 0) = false) (hl : out.length ≠ 20) (hx : identL (tokL s i) = some x) (ha : addE out x ≠ 0) : parseL s i out = ([], i, addE out x) := by
  rw [parse_un h, if_neg (by rw [hb]; decide), if_neg hl, hx]
  exact if_neg ha
theorem parse_go {s : List UInt8} {i k : Nat} {out : List Id} {x : Id} (h : i < s.length) (hb : blankB (s.getD i 0) = false) (hl : out.length ≠ 20) (hx : identL (tokL s i) = some x) (ha : addE out x = 0) (hk : tokEnd s i = k) : parseL s i out = parseL s k (out ++ [x]) := by
  rw [parse_un h, if_neg (by rw [hb]; decide), if_neg hl, hx, ← hk]
  exact if_pos ha
/-- What Parse answers. -/
def RetPa (w : World) (r : POut) (e : Ending) (w' : World) : Prop :=
  ∃ ao cap, e = .returned (.tuple #[.slice ao r.1.length cap, .int .i64 (r.2.1 : Int), .int .i64 r.2.2]) ∧ Below w.heap.size w w' ∧ Ids w' (.slice ao r.1.length cap) r.1
theorem RetPa.mk {w w' : World} {r : POut} {ao : Option Addr} {l : List Id} {n cap i : Nat} {c : Int} (hr : r = (l, i, c)) (hn : n = l.length) (hb : Below w.heap.size w w') (hl : Ids w' (.slice ao l.length cap) l) : RetPa w r (.returned (.tuple #[.slice ao n cap, .int .i64 (i : Int), .int .i64 c])) w' := by
  subst hr hn; exact ⟨ao, cap, rfl, hb, hl⟩
theorem RetPa.no {w w' : World} {r : POut} {i : Nat} {c : Int} (hr : r = ([], i, c)) (hb : Below w.heap.size w w') : RetPa w r (.returned (.tuple #[.slice none 0 0, .int .i64 (i : Int), .int .i64 c])) w' :=
  RetPa.mk (l := []) hr rfl hb (Sl.nil _ _)
theorem idNone {w w' : World} {e : Ending} (h : RetId w none e w') : e = .returned (.tuple #[Id0.val, .bool false]) ∧ Below w.heap.size w w' := h
theorem idSome {w w' : World} {e : Ending} {x : Id} (h : RetId w (some x) e w') : e = .returned (.tuple #[x.val, .bool true]) ∧ Below w.heap.size w w' := h
def RPaRel (w : World) (s : List UInt8) (v i : Value) (wr : World) : Prop :=
  ∃ (k : Nat) (out : List Id) (ao : Option Addr) (cap : Nat), k ≤ s.length ∧ i = .int .i64 k ∧ v = .slice ao out.length cap ∧ parseL s 0 [] = parseL s k out ∧ out.length ≤ 20 ∧ Holds w [] [] [rowA 38 ao cap out] wr
def WordRel (w : World) (s : List UInt8) (k : Nat) (bs : List (Nat × Obj)) (rows : List Row) (i : Value) (wr : World) : Prop :=
  ∃ j : Nat, k ≤ j ∧ j ≤ s.length ∧ i = .int .i64 j ∧ (∀ m, k ≤ m → m < j → blankB (s.getD m 0) = false) ∧ Holds w [] bs rows wr
set_option maxRecDepth 100000 in
set_option maxHeartbeats 4000000 in
theorem refParse_any (w : World) (s : List UInt8) (hn : s.length ≤ 3000) : Calls Try.prog 26 #[str s] w (RetPa w (parseL s 0 [])) := by
  have HH := hid (Holds.init w)
  go_enter Try.func26, Try.ntmps26
  go_wp2_with (first
    | ((first
        | ((with_reducible apply wpL_skip); rfl; skip)
        | ((with_reducible apply wpL_nilCheck); rfl; rfl)
        | ((with_reducible apply wpL_loadArr (t := 38) kA38 HH.out); rfl; (first | exact .here | exact .there .here | exact .there (.there .here) | exact .there (.there (.there .here)) | exact .there (.there (.there (.there .here))) | exact .there (.there (.there (.there (.there .here)))) | exact .there (.there (.there (.there (.there (.there .here))))) | exact .there (.there (.there (.there (.there (.there (.there .here))))))); rfl)
        | ((with_reducible apply wpL_loadC (t := 38) kA38 HH.out); rfl; (first | exact .here | exact .there .here | exact .there (.there .here) | exact .there (.there (.there .here)) | exact .there (.there (.there (.there .here))) | exact .there (.there (.there (.there (.there .here)))) | exact .there (.there (.there (.there (.there (.there .here))))) | exact .there (.there (.there (.there (.there (.there (.there .here))))))); (first | rfl | exact Arr.len _ | (simp; done)); rfl)
        | ((with_reducible apply wpL_len (t := 22) Try.underlying22); rfl; rfl)
        | ((with_reducible apply wpL_allocC (dst := some 8) kZ38 HH.out); rfl; (intro g8_ w_ hq_; (try simp only [List.set_cons_zero, List.set_cons_succ] at hq_); clear HH; have HH := hid hq_; clear hq_))
        | ((with_reducible apply wpL_storeArr (t := 38) kS38 HH.out); rfl; rfl; (first | exact .here | exact .there .here | exact .there (.there .here) | exact .there (.there (.there .here)) | exact .there (.there (.there (.there .here))) | exact .there (.there (.there (.there (.there .here)))) | exact .there (.there (.there (.there (.there (.there .here))))) | exact .there (.there (.there (.there (.there (.there (.there .here))))))); (first | rfl | exact Arr.len _ | (simp; done)); rfl; (intro w_ hq_; (try simp only [List.set_cons_zero, List.set_cons_succ] at hq_); clear HH; have HH := hid hq_; clear hq_))
        | ((with_reducible apply wpL_storeC (t := 38)); rfl; rfl; (exact kS38); (exact HH.out); (first | exact .here | exact .there .here | exact .there (.there .here) | exact .there (.there (.there .here)) | exact .there (.there (.there (.there .here))) | exact .there (.there (.there (.there (.there .here)))) | exact .there (.there (.there (.there (.there (.there .here))))) | exact .there (.there (.there (.there (.there (.there (.there .here))))))); (first | rfl | exact Arr.len _ | (simp; done)); (first | rfl | (intro u_ hu_; simp only [List.mem_cons, List.not_mem_nil, or_false] at hu_; rcases hu_ with rfl | hu_; rfl) | exact byt_cell1 _ | exact cells_one _ | exact wrd_one _ | exact flat_cell1 _); (first | rfl | exact Arr.len _ | (simp; done)); rfl; (intro w_ hq_; (try simp only [List.set_cons_zero, List.set_cons_succ] at hq_); clear HH; have HH := hid hq_; clear hq_))
        | ((with_reducible apply wpL_move); rfl; rfl)
        | ((with_reducible apply wpL_assign); rfl; rfl)
        | ((with_reducible apply wpL_pick); rfl; rfl; rfl)
        | ((with_reducible apply wpL_not); rfl; rfl)
        | ((with_reducible apply wpL_cmp (b := true)); rfl; rfl; rfl; (first | rfl | assumption | (simp only [cmpB, decide_eq_true_eq, decide_eq_false_iff_not, beq_iff_eq, bne_iff_ne, ne_eq, beq_eq_false_iff_ne, bne_eq_false_iff_eq, gt_iff_lt, ge_iff_le]; omega) | (simp; omega)); rfl)
        | ((with_reducible apply wpL_cmp (b := false)); rfl; rfl; rfl; (first | rfl | assumption | (simp only [cmpB, decide_eq_true_eq, decide_eq_false_iff_not, beq_iff_eq, bne_iff_ne, ne_eq, beq_eq_false_iff_ne, bne_eq_false_iff_eq, gt_iff_lt, ge_iff_le]; omega) | (simp; omega)); rfl)
        | ((with_reducible apply wpL_cmp); rfl; rfl; rfl; rfl; rfl)
        | ((with_reducible apply wpL_arith); rfl; rfl; rfl; (exact IntWalk.i64_in _ (by (try simp only [arithI]); omega)); rfl)); (try simp only [arithI, Act.put, Act.eval, List.setIfInBounds_toArray, List.set_cons_succ, List.set_cons_zero, Array.getD_eq_getD_getElem?, List.getElem?_toArray, List.getElem?_cons_succ, List.getElem?_cons_zero, Option.getD_some])))
  go_loopw [5, 6] (RPaRel w s) (fun _ i _ => s.length - (intOf i).toNat)
  case atStart => exact ⟨0, [], none, 0, Nat.zero_le _, rfl, rfl, rfl, by simp, HH.out.addNil 38 32⟩
  case round =>
    obtain ⟨k, out, ao1, cap1, hk, rfl, rfl, hpar, hlen, hr⟩ := hrel
    clear HH
    have HH := hid hr
    have HP := hid hpar
    clear hr hpar
    by_cases hlt : k < s.length
    · obtain ⟨c, hc⟩ : ∃ c, s.getD k 0 = c := ⟨_, rfl⟩
      have HC := hid hc
      cases hb : blankB (s.getD k 0) with
      | true =>
        have HB := hid hb
        have HBC := hid (show blankB c = true by rw [← hc]; exact hb)
        clear hc hb
        go_wp2_with (first
          | ((first
              | ((with_reducible apply wpL_skip); rfl; skip)
              | ((with_reducible apply wpL_indexStr (dst := some 16) (l := s) (m := k) (v := c) Try.underlying9); rfl; rfl; rfl; (exact hlt); (exact HC.out); rfl)
              | (go_at_call 40; (with_reducible refine (blankR_any _ c true HBC.out).mono ?_); rintro e_ w2_ ⟨rfl, rfl⟩)
              | ((with_reducible apply wpL_nilCheck); rfl; rfl)
              | ((with_reducible apply wpL_loadArr (t := 38) kA38 HH.out); rfl; (first | exact .here | exact .there .here | exact .there (.there .here) | exact .there (.there (.there .here)) | exact .there (.there (.there (.there .here))) | exact .there (.there (.there (.there (.there .here)))) | exact .there (.there (.there (.there (.there (.there .here))))) | exact .there (.there (.there (.there (.there (.there (.there .here))))))); rfl)
              | ((with_reducible apply wpL_loadC (t := 38) kA38 HH.out); rfl; (first | exact .here | exact .there .here | exact .there (.there .here) | exact .there (.there (.there .here)) | exact .there (.there (.there (.there .here))) | exact .there (.there (.there (.there (.there .here)))) | exact .there (.there (.there (.there (.there (.there .here))))) | exact .there (.there (.there (.there (.there (.there (.there .here))))))); (first | rfl | exact Arr.len _ | (simp; done)); rfl)
              | ((with_reducible apply wpL_len (t := 22) Try.underlying22); rfl; rfl)
              | ((with_reducible apply wpL_allocC (dst := some 8) kZ38 HH.out); rfl; (intro g8_ w_ hq_; (try simp only [List.set_cons_zero, List.set_cons_succ] at hq_); clear HH; have HH := hid hq_; clear hq_))
              | ((with_reducible apply wpL_storeArr (t := 38) kS38 HH.out); rfl; rfl; (first | exact .here | exact .there .here | exact .there (.there .here) | exact .there (.there (.there .here)) | exact .there (.there (.there (.there .here))) | exact .there (.there (.there (.there (.there .here)))) | exact .there (.there (.there (.there (.there (.there .here))))) | exact .there (.there (.there (.there (.there (.there (.there .here))))))); (first | rfl | exact Arr.len _ | (simp; done)); rfl; (intro w_ hq_; (try simp only [List.set_cons_zero, List.set_cons_succ] at hq_); clear HH; have HH := hid hq_; clear hq_))
              | ((with_reducible apply wpL_storeC (t := 38)); rfl; rfl; (exact kS38); (exact HH.out); (first | exact .here | exact .there .here | exact .there (.there .here) | exact .there (.there (.there .here)) | exact .there (.there (.there (.there .here))) | exact .there (.there (.there (.there (.there .here)))) | exact .there (.there (.there (.there (.there (.there .here))))) | exact .there (.there (.there (.there (.there (.there (.there .here))))))); (first | rfl | exact Arr.len _ | (simp; done)); (first | rfl | (intro u_ hu_; simp only [List.mem_cons, List.not_mem_nil, or_false] at hu_; rcases hu_ with rfl | hu_; rfl) | exact byt_cell1 _ | exact cells_one _ | exact wrd_one _ | exact flat_cell1 _); (first | rfl | exact Arr.len _ | (simp; done)); rfl; (intro w_ hq_; (try simp only [List.set_cons_zero, List.set_cons_succ] at hq_); clear HH; have HH := hid hq_; clear hq_))
              | ((with_reducible apply wpL_move); rfl; rfl)
              | ((with_reducible apply wpL_assign); rfl; rfl)
              | ((with_reducible apply wpL_pick); rfl; rfl; rfl)
              | ((with_reducible apply wpL_not); rfl; rfl)
              | ((with_reducible apply wpL_cmp (b := true)); rfl; rfl; rfl; (first | rfl | assumption | (simp only [cmpB, decide_eq_true_eq, decide_eq_false_iff_not, beq_iff_eq, bne_iff_ne, ne_eq, beq_eq_false_iff_ne, bne_eq_false_iff_eq, gt_iff_lt, ge_iff_le]; omega) | (simp; omega)); rfl)
              | ((with_reducible apply wpL_cmp (b := false)); rfl; rfl; rfl; (first | rfl | assumption | (simp only [cmpB, decide_eq_true_eq, decide_eq_false_iff_not, beq_iff_eq, bne_iff_ne, ne_eq, beq_eq_false_iff_ne, bne_eq_false_iff_eq, gt_iff_lt, ge_iff_le]; omega) | (simp; omega)); rfl)
              | ((with_reducible apply wpL_cmp); rfl; rfl; rfl; rfl; rfl)
              | ((with_reducible apply wpL_arith); rfl; rfl; rfl; (exact IntWalk.i64_in _ (by (try simp only [arithI]); omega)); rfl)); (try simp only [arithI, Act.put, Act.eval, List.setIfInBounds_toArray, List.set_cons_succ, List.set_cons_zero, Array.getD_eq_getD_getElem?, List.getElem?_toArray, List.getElem?_cons_succ, List.getElem?_cons_zero, Option.getD_some])))
        go_roundw
        case rel => exact ⟨k + 1, out, ao1, cap1, by omega, by go_num, rfl, by rw [HP.out]; exact parse_blank hlt HB.out, hlen, HH.out⟩
        case measure => simp [intOf]; omega
      | false =>
        have HB := hid hb
        have HBC := hid (show blankB c = false by rw [← hc]; exact hb)
        clear hc hb
        go_wp2_with (first
          | ((first
              | ((with_reducible apply wpL_skip); rfl; skip)
              | ((with_reducible apply wpL_indexStr (dst := some 16) (l := s) (m := k) (v := c) Try.underlying9); rfl; rfl; rfl; (exact hlt); (exact HC.out); rfl)
              | (go_at_call 40; (with_reducible refine (blankR_any _ c false HBC.out).mono ?_); rintro e_ w2_ ⟨rfl, rfl⟩)
              | ((with_reducible apply wpL_nilCheck); rfl; rfl)
              | ((with_reducible apply wpL_loadArr (t := 38) kA38 HH.out); rfl; (first | exact .here | exact .there .here | exact .there (.there .here) | exact .there (.there (.there .here)) | exact .there (.there (.there (.there .here))) | exact .there (.there (.there (.there (.there .here)))) | exact .there (.there (.there (.there (.there (.there .here))))) | exact .there (.there (.there (.there (.there (.there (.there .here))))))); rfl)
              | ((with_reducible apply wpL_loadC (t := 38) kA38 HH.out); rfl; (first | exact .here | exact .there .here | exact .there (.there .here) | exact .there (.there (.there .here)) | exact .there (.there (.there (.there .here))) | exact .there (.there (.there (.there (.there .here)))) | exact .there (.there (.there (.there (.there (.there .here))))) | exact .there (.there (.there (.there (.there (.there (.there .here))))))); (first | rfl | exact Arr.len _ | (simp; done)); rfl)
              | ((with_reducible apply wpL_len (t := 22) Try.underlying22); rfl; rfl)
              | ((with_reducible apply wpL_allocC (dst := some 8) kZ38 HH.out); rfl; (intro g8_ w_ hq_; (try simp only [List.set_cons_zero, List.set_cons_succ] at hq_); clear HH; have HH := hid hq_; clear hq_))
              | ((with_reducible apply wpL_storeArr (t := 38) kS38 HH.out); rfl; rfl; (first | exact .here | exact .there .here | exact .there (.there .here) | exact .there (.there (.there .here)) | exact .there (.there (.there (.there .here))) | exact .there (.there (.there (.there (.there .here)))) | exact .there (.there (.there (.there (.there (.there .here))))) | exact .there (.there (.there (.there (.there (.there (.there .here))))))); (first | rfl | exact Arr.len _ | (simp; done)); rfl; (intro w_ hq_; (try simp only [List.set_cons_zero, List.set_cons_succ] at hq_); clear HH; have HH := hid hq_; clear hq_))
              | ((with_reducible apply wpL_storeC (t := 38)); rfl; rfl; (exact kS38); (exact HH.out); (first | exact .here | exact .there .here | exact .there (.there .here) | exact .there (.there (.there .here)) | exact .there (.there (.there (.there .here))) | exact .there (.there (.there (.there (.there .here)))) | exact .there (.there (.there (.there (.there (.there .here))))) | exact .there (.there (.there (.there (.there (.there (.there .here))))))); (first | rfl | exact Arr.len _ | (simp; done)); (first | rfl | (intro u_ hu_; simp only [List.mem_cons, List.not_mem_nil, or_false] at hu_; rcases hu_ with rfl | hu_; rfl) | exact byt_cell1 _ | exact cells_one _ | exact wrd_one _ | exact flat_cell1 _); (first | rfl | exact Arr.len _ | (simp; done)); rfl; (intro w_ hq_; (try simp only [List.set_cons_zero, List.set_cons_succ] at hq_); clear HH; have HH := hid hq_; clear hq_))
              | ((with_reducible apply wpL_move); rfl; rfl)
              | ((with_reducible apply wpL_assign); rfl; rfl)
              | ((with_reducible apply wpL_pick); rfl; rfl; rfl)
              | ((with_reducible apply wpL_not); rfl; rfl)
              | ((with_reducible apply wpL_cmp (b := true)); rfl; rfl; rfl; (first | rfl | assumption | (simp only [cmpB, decide_eq_true_eq, decide_eq_false_iff_not, beq_iff_eq, bne_iff_ne, ne_eq, beq_eq_false_iff_ne, bne_eq_false_iff_eq, gt_iff_lt, ge_iff_le]; omega) | (simp; omega)); rfl)
              | ((with_reducible apply wpL_cmp (b := false)); rfl; rfl; rfl; (first | rfl | assumption | (simp only [cmpB, decide_eq_true_eq, decide_eq_false_iff_not, beq_iff_eq, bne_iff_ne, ne_eq, beq_eq_false_iff_ne, bne_eq_false_iff_eq, gt_iff_lt, ge_iff_le]; omega) | (simp; omega)); rfl)
              | ((with_reducible apply wpL_cmp); rfl; rfl; rfl; rfl; rfl)
              | ((with_reducible apply wpL_arith); rfl; rfl; rfl; (exact IntWalk.i64_in _ (by (try simp only [arithI]); omega)); rfl)); (try simp only [arithI, Act.put, Act.eval, List.setIfInBounds_toArray, List.set_cons_succ, List.set_cons_zero, Array.getD_eq_getD_getElem?, List.getElem?_toArray, List.getElem?_cons_succ, List.getElem?_cons_zero, Option.getD_some])))
        go_loopw [7] (WordRel w s k [] [rowA 38 ao1 cap1 out]) (fun i _ => s.length - (intOf i).toNat)
        case atStart => exact ⟨k, Nat.le_refl _, hk, rfl, fun m h1 h2 => absurd h2 (by omega), HH.out⟩
        case round =>
          obtain ⟨j, hkj, hj, rfl, hall, hr⟩ := hrel
          clear HH
          have HH := hid hr
          have HALL := hid hall
          have HTL := hid (show (tokL s k).length ≤ 1000000 by unfold tokL; have := (List.takeWhile_prefix (l := s.drop k) (fun c => !blankB c)).length_le; simp at this; omega)
          clear hr hall
          by_cases hjl : j < s.length
          · obtain ⟨d, hd⟩ : ∃ d, s.getD j 0 = d := ⟨_, rfl⟩
            have HD := hid hd
            cases hbd : blankB d with
            | false =>
              have HBD := hid hbd
              have HBJ := hid (show blankB (s.getD j 0) = false by rw [hd]; exact hbd)
              clear hd hbd
              go_wp2_with (first
                | ((first
                    | ((with_reducible apply wpL_skip); rfl; skip)
                    | ((with_reducible apply wpL_indexStr (dst := some 28) (l := s) (m := j) (v := d) Try.underlying9); rfl; rfl; rfl; (exact hjl); (exact HD.out); rfl)
                    | (go_at_call 40; (with_reducible refine (blankR_any _ d false HBD.out).mono ?_); rintro e_ w2_ ⟨rfl, rfl⟩)
                    | ((with_reducible apply wpL_nilCheck); rfl; rfl)
                    | ((with_reducible apply wpL_loadArr (t := 38) kA38 HH.out); rfl; (first | exact .here | exact .there .here | exact .there (.there .here) | exact .there (.there (.there .here)) | exact .there (.there (.there (.there .here))) | exact .there (.there (.there (.there (.there .here)))) | exact .there (.there (.there (.there (.there (.there .here))))) | exact .there (.there (.there (.there (.there (.there (.there .here))))))); rfl)
                    | ((with_reducible apply wpL_loadC (t := 38) kA38 HH.out); rfl; (first | exact .here | exact .there .here | exact .there (.there .here) | exact .there (.there (.there .here)) | exact .there (.there (.there (.there .here))) | exact .there (.there (.there (.there (.there .here)))) | exact .there (.there (.there (.there (.there (.there .here))))) | exact .there (.there (.there (.there (.there (.there (.there .here))))))); (first | rfl | exact Arr.len _ | (simp; done)); rfl)
                    | ((with_reducible apply wpL_len (t := 22) Try.underlying22); rfl; rfl)
                    | ((with_reducible apply wpL_allocC (dst := some 8) kZ38 HH.out); rfl; (intro g8_ w_ hq_; (try simp only [List.set_cons_zero, List.set_cons_succ] at hq_); clear HH; have HH := hid hq_; clear hq_))
                    | ((with_reducible apply wpL_storeArr (t := 38) kS38 HH.out); rfl; rfl; (first | exact .here | exact .there .here | exact .there (.there .here) | exact .there (.there (.there .here)) | exact .there (.there (.there (.there .here))) | exact .there (.there (.there (.there (.there .here)))) | exact .there (.there (.there (.there (.there (.there .here))))) | exact .there (.there (.there (.there (.there (.there (.there .here))))))); (first | rfl | exact Arr.len _ | (simp; done)); rfl; (intro w_ hq_; (try simp only [List.set_cons_zero, List.set_cons_succ] at hq_); clear HH; have HH := hid hq_; clear hq_))
                    | ((with_reducible apply wpL_storeC (t := 38)); rfl; rfl; (exact kS38); (exact HH.out); (first | exact .here | exact .there .here | exact .there (.there .here) | exact .there (.there (.there .here)) | exact .there (.there (.there (.there .here))) | exact .there (.there (.there (.there (.there .here)))) | exact .there (.there (.there (.there (.there (.there .here))))) | exact .there (.there (.there (.there (.there (.there (.there .here))))))); (first | rfl | exact Arr.len _ | (simp; done)); (first | rfl | (intro u_ hu_; simp only [List.mem_cons, List.not_mem_nil, or_false] at hu_; rcases hu_ with rfl | hu_; rfl) | exact byt_cell1 _ | exact cells_one _ | exact wrd_one _ | exact flat_cell1 _); (first | rfl | exact Arr.len _ | (simp; done)); rfl; (intro w_ hq_; (try simp only [List.set_cons_zero, List.set_cons_succ] at hq_); clear HH; have HH := hid hq_; clear hq_))
                    | ((with_reducible apply wpL_move); rfl; rfl)
                    | ((with_reducible apply wpL_assign); rfl; rfl)
                    | ((with_reducible apply wpL_pick); rfl; rfl; rfl)
                    | ((with_reducible apply wpL_not); rfl; rfl)
                    | ((with_reducible apply wpL_cmp (b := true)); rfl; rfl; rfl; (first | rfl | assumption | (simp only [cmpB, decide_eq_true_eq, decide_eq_false_iff_not, beq_iff_eq, bne_iff_ne, ne_eq, beq_eq_false_iff_ne, bne_eq_false_iff_eq, gt_iff_lt, ge_iff_le]; omega) | (simp; omega)); rfl)
                    | ((with_reducible apply wpL_cmp (b := false)); rfl; rfl; rfl; (first | rfl | assumption | (simp only [cmpB, decide_eq_true_eq, decide_eq_false_iff_not, beq_iff_eq, bne_iff_ne, ne_eq, beq_eq_false_iff_ne, bne_eq_false_iff_eq, gt_iff_lt, ge_iff_le]; omega) | (simp; omega)); rfl)
                    | ((with_reducible apply wpL_cmp); rfl; rfl; rfl; rfl; rfl)
                    | ((with_reducible apply wpL_arith); rfl; rfl; rfl; (exact IntWalk.i64_in _ (by (try simp only [arithI]); omega)); rfl)); (try simp only [arithI, Act.put, Act.eval, List.setIfInBounds_toArray, List.set_cons_succ, List.set_cons_zero, Array.getD_eq_getD_getElem?, List.getElem?_toArray, List.getElem?_cons_succ, List.getElem?_cons_zero, Option.getD_some])))
              go_roundw
              case rel => exact ⟨j + 1, by omega, by omega, by go_num, fun m h1 h2 => by rcases Nat.lt_succ_iff_lt_or_eq.1 h2 with h | h; exact HALL.out m h1 h; rw [h]; exact HBJ.out, HH.out⟩
              case measure => simp [intOf]; omega
            | true =>
              have HBD := hid hbd
              have hend : j < s.length → blankB (s.getD j 0) = true := fun _ => by rw [hd]; exact hbd
              clear hd hbd
              obtain ⟨hte, htk⟩ := tok_end hkj hj HALL.out hend
              clear hend
              have hkj2 : k < j := hte ▸ tokEnd_gt hlt HB.out
              have HTE := hid hte
              have HTK := hid htk
              clear hte htk
              by_cases h20 : out.length = 20
              · have HE := hid (parse_full hlt HB.out h20)
                have H20 := hid h20
                have hb20 : ((out.length : Int) == 20) = true := by simp [h20]
                go_wp2_with (first
                  | ((first
                      | ((with_reducible apply wpL_skip); rfl; skip)
                      | ((with_reducible apply wpL_indexStr (dst := some 28) (l := s) (m := j) (v := d) Try.underlying9); rfl; rfl; rfl; (exact hjl); (exact HD.out); rfl)
                      | (go_at_call 40; (with_reducible refine (blankR_any _ d true HBD.out).mono ?_); rintro e_ w2_ ⟨rfl, rfl⟩)
                      | ((with_reducible apply wpL_nilCheck); rfl; rfl)
                      | ((with_reducible apply wpL_loadArr (t := 38) kA38 HH.out); rfl; (first | exact .here | exact .there .here | exact .there (.there .here) | exact .there (.there (.there .here)) | exact .there (.there (.there (.there .here))) | exact .there (.there (.there (.there (.there .here)))) | exact .there (.there (.there (.there (.there (.there .here))))) | exact .there (.there (.there (.there (.there (.there (.there .here))))))); rfl)
                      | ((with_reducible apply wpL_loadC (t := 38) kA38 HH.out); rfl; (first | exact .here | exact .there .here | exact .there (.there .here) | exact .there (.there (.there .here)) | exact .there (.there (.there (.there .here))) | exact .there (.there (.there (.there (.there .here)))) | exact .there (.there (.there (.there (.there (.there .here))))) | exact .there (.there (.there (.there (.there (.there (.there .here))))))); (first | rfl | exact Arr.len _ | (simp; done)); rfl)
                      | ((with_reducible apply wpL_len (t := 22) Try.underlying22); rfl; rfl)
                      | ((with_reducible apply wpL_allocC (dst := some 8) kZ38 HH.out); rfl; (intro g8_ w_ hq_; (try simp only [List.set_cons_zero, List.set_cons_succ] at hq_); clear HH; have HH := hid hq_; clear hq_))
                      | ((with_reducible apply wpL_storeArr (t := 38) kS38 HH.out); rfl; rfl; (first | exact .here | exact .there .here | exact .there (.there .here) | exact .there (.there (.there .here)) | exact .there (.there (.there (.there .here))) | exact .there (.there (.there (.there (.there .here)))) | exact .there (.there (.there (.there (.there (.there .here))))) | exact .there (.there (.there (.there (.there (.there (.there .here))))))); (first | rfl | exact Arr.len _ | (simp; done)); rfl; (intro w_ hq_; (try simp only [List.set_cons_zero, List.set_cons_succ] at hq_); clear HH; have HH := hid hq_; clear hq_))
                      | ((with_reducible apply wpL_storeC (t := 38)); rfl; rfl; (exact kS38); (exact HH.out); (first | exact .here | exact .there .here | exact .there (.there .here) | exact .there (.there (.there .here)) | exact .there (.there (.there (.there .here))) | exact .there (.there (.there (.there (.there .here)))) | exact .there (.there (.there (.there (.there (.there .here))))) | exact .there (.there (.there (.there (.there (.there (.there .here))))))); (first | rfl | exact Arr.len _ | (simp; done)); (first | rfl | (intro u_ hu_; simp only [List.mem_cons, List.not_mem_nil, or_false] at hu_; rcases hu_ with rfl | hu_; rfl) | exact byt_cell1 _ | exact cells_one _ | exact wrd_one _ | exact flat_cell1 _); (first | rfl | exact Arr.len _ | (simp; done)); rfl; (intro w_ hq_; (try simp only [List.set_cons_zero, List.set_cons_succ] at hq_); clear HH; have HH := hid hq_; clear hq_))
                      | ((with_reducible apply wpL_move); rfl; rfl)
                      | ((with_reducible apply wpL_assign); rfl; rfl)
                      | ((with_reducible apply wpL_pick); rfl; rfl; rfl)
                      | ((with_reducible apply wpL_not); rfl; rfl)
                      | ((with_reducible apply wpL_cmp (b := true)); rfl; rfl; rfl; (first | rfl | assumption | (simp only [cmpB, decide_eq_true_eq, decide_eq_false_iff_not, beq_iff_eq, bne_iff_ne, ne_eq, beq_eq_false_iff_ne, bne_eq_false_iff_eq, gt_iff_lt, ge_iff_le]; omega) | (simp; omega)); rfl)
                      | ((with_reducible apply wpL_cmp (b := false)); rfl; rfl; rfl; (first | rfl | assumption | (simp only [cmpB, decide_eq_true_eq, decide_eq_false_iff_not, beq_iff_eq, bne_iff_ne, ne_eq, beq_eq_false_iff_ne, bne_eq_false_iff_eq, gt_iff_lt, ge_iff_le]; omega) | (simp; omega)); rfl)
                      | ((with_reducible apply wpL_cmp); rfl; rfl; rfl; rfl; rfl)
                      | ((with_reducible apply wpL_arith); rfl; rfl; rfl; (exact IntWalk.i64_in _ (by (try simp only [arithI]); omega)); rfl)); (try simp only [arithI, Act.put, Act.eval, List.setIfInBounds_toArray, List.set_cons_succ, List.set_cons_zero, Array.getD_eq_getD_getElem?, List.getElem?_toArray, List.getElem?_cons_succ, List.getElem?_cons_zero, Option.getD_some])))
                refine bodyPost_ret (res3 rfl (by rfl) (by rfl) (by rfl)) rfl ?_
                exact RetPa.no (by rw [HP.out]; exact HE.out) HH.out.below
              · have hb20 : ((out.length : Int) == 20) = false := by simp; omega
                cases hx : identL (tokL s k) with
                | none =>
                  have HE := hid (parse_bad hlt HB.out h20 hx)
                  have HX := hid hx
                  clear hx
                  go_wp2_with (first
                    | ((first
                        | ((with_reducible apply wpL_skip); rfl; skip)
                        | ((with_reducible apply wpL_indexStr (dst := some 28) (l := s) (m := j) (v := d) Try.underlying9); rfl; rfl; rfl; (exact hjl); (exact HD.out); rfl)
                        | (go_at_call 40; (with_reducible refine (blankR_any _ d true HBD.out).mono ?_); rintro e_ w2_ ⟨rfl, rfl⟩)
                        | ((with_reducible apply wpL_sliceStr (l := s) (m := tokL s k) (i := k) (j := j) Try.underlying9); rfl; (exact .inr ⟨_, rfl⟩); (exact .inr ⟨_, rfl⟩); (exact hkj); (exact hj); (exact HTK.out); rfl)
                        | (go_at_call 41; (with_reducible refine (identity_any _ (tokL s k) HTL.out).mono ?_); rw [HX.out]; intro e_ w2_ hq0_; obtain ⟨rfl, hb_⟩ := idNone hq0_; clear hq0_; (have hq_ := HH.out.grow hb_); clear HH; have HH := hid hq_; clear hq_ hb_)
                        | ((with_reducible apply wpL_storeC (t := 38) (vs := Id0.cells)); rfl; rfl; (exact kS38); (exact HH.out); (exact .here); (exact Arr.len _); (exact cells_one _); (exact Arr.len _); rfl; (intro w_ hq_; clear HH; have HH := hid hq_; clear hq_))
                        | ((with_reducible apply wpL_nilCheck); rfl; rfl)
                        | ((with_reducible apply wpL_loadArr (t := 38) kA38 HH.out); rfl; (first | exact .here | exact .there .here | exact .there (.there .here) | exact .there (.there (.there .here)) | exact .there (.there (.there (.there .here))) | exact .there (.there (.there (.there (.there .here)))) | exact .there (.there (.there (.there (.there (.there .here))))) | exact .there (.there (.there (.there (.there (.there (.there .here))))))); rfl)
                        | ((with_reducible apply wpL_loadC (t := 38) kA38 HH.out); rfl; (first | exact .here | exact .there .here | exact .there (.there .here) | exact .there (.there (.there .here)) | exact .there (.there (.there (.there .here))) | exact .there (.there (.there (.there (.there .here)))) | exact .there (.there (.there (.there (.there (.there .here))))) | exact .there (.there (.there (.there (.there (.there (.there .here))))))); (first | rfl | exact Arr.len _ | (simp; done)); rfl)
                        | ((with_reducible apply wpL_len (t := 22) Try.underlying22); rfl; rfl)
                        | ((with_reducible apply wpL_allocC (dst := some 8) kZ38 HH.out); rfl; (intro g8_ w_ hq_; (try simp only [List.set_cons_zero, List.set_cons_succ] at hq_); clear HH; have HH := hid hq_; clear hq_))
                        | ((with_reducible apply wpL_storeArr (t := 38) kS38 HH.out); rfl; rfl; (first | exact .here | exact .there .here | exact .there (.there .here) | exact .there (.there (.there .here)) | exact .there (.there (.there (.there .here))) | exact .there (.there (.there (.there (.there .here)))) | exact .there (.there (.there (.there (.there (.there .here))))) | exact .there (.there (.there (.there (.there (.there (.there .here))))))); (first | rfl | exact Arr.len _ | (simp; done)); rfl; (intro w_ hq_; (try simp only [List.set_cons_zero, List.set_cons_succ] at hq_); clear HH; have HH := hid hq_; clear hq_))
                        | ((with_reducible apply wpL_storeC (t := 38)); rfl; rfl; (exact kS38); (exact HH.out); (first | exact .here | exact .there .here | exact .there (.there .here) | exact .there (.there (.there .here)) | exact .there (.there (.there (.there .here))) | exact .there (.there (.there (.there (.there .here)))) | exact .there (.there (.there (.there (.there (.there .here))))) | exact .there (.there (.there (.there (.there (.there (.there .here))))))); (first | rfl | exact Arr.len _ | (simp; done)); (first | rfl | (intro u_ hu_; simp only [List.mem_cons, List.not_mem_nil, or_false] at hu_; rcases hu_ with rfl | hu_; rfl) | exact byt_cell1 _ | exact cells_one _ | exact wrd_one _ | exact flat_cell1 _); (first | rfl | exact Arr.len _ | (simp; done)); rfl; (intro w_ hq_; (try simp only [List.set_cons_zero, List.set_cons_succ] at hq_); clear HH; have HH := hid hq_; clear hq_))
                        | ((with_reducible apply wpL_move); rfl; rfl)
                        | ((with_reducible apply wpL_assign); rfl; rfl)
                        | ((with_reducible apply wpL_pick); rfl; rfl; rfl)
                        | ((with_reducible apply wpL_not); rfl; rfl)
                        | ((with_reducible apply wpL_cmp (b := true)); rfl; rfl; rfl; (first | rfl | assumption | (simp only [cmpB, decide_eq_true_eq, decide_eq_false_iff_not, beq_iff_eq, bne_iff_ne, ne_eq, beq_eq_false_iff_ne, bne_eq_false_iff_eq, gt_iff_lt, ge_iff_le]; omega) | (simp; omega)); rfl)
                        | ((with_reducible apply wpL_cmp (b := false)); rfl; rfl; rfl; (first | rfl | assumption | (simp only [cmpB, decide_eq_true_eq, decide_eq_false_iff_not, beq_iff_eq, bne_iff_ne, ne_eq, beq_eq_false_iff_ne, bne_eq_false_iff_eq, gt_iff_lt, ge_iff_le]; omega) | (simp; omega)); rfl)
                        | ((with_reducible apply wpL_cmp); rfl; rfl; rfl; rfl; rfl)
                        | ((with_reducible apply wpL_arith); rfl; rfl; rfl; (exact IntWalk.i64_in _ (by (try simp only [arithI]); omega)); rfl)); (try simp only [arithI, Act.put, Act.eval, List.setIfInBounds_toArray, List.set_cons_succ, List.set_cons_zero, Array.getD_eq_getD_getElem?, List.getElem?_toArray, List.getElem?_cons_succ, List.getElem?_cons_zero, Option.getD_some])))
                  refine bodyPost_ret (res3 rfl (by rfl) (by rfl) (by rfl)) rfl ?_
                  exact RetPa.no (by rw [HP.out]; exact HE.out) HH.out.below
                | some x =>
                  have HX := hid hx
                  clear hx
                  cases hz : (x == Id0) with
                  | true =>
                    have HZ := hid hz
                    have HE := hid (parse_no hlt HB.out h20 HX.out (by rw [addE_one hz]; decide))
                    have HA := hid (addE_one (l := out) hz)
                    clear hz
                    go_wp2_with (first
                      | ((first
                          | ((with_reducible apply wpL_skip); rfl; skip)
                          | ((with_reducible apply wpL_indexStr (dst := some 28) (l := s) (m := j) (v := d) Try.underlying9); rfl; rfl; rfl; (exact hjl); (exact HD.out); rfl)
                          | (go_at_call 40; (with_reducible refine (blankR_any _ d true HBD.out).mono ?_); rintro e_ w2_ ⟨rfl, rfl⟩)
                          | ((with_reducible apply wpL_sliceStr (l := s) (m := tokL s k) (i := k) (j := j) Try.underlying9); rfl; (exact .inr ⟨_, rfl⟩); (exact .inr ⟨_, rfl⟩); (exact hkj); (exact hj); (exact HTK.out); rfl)
                          | (go_at_call 41; (with_reducible refine (identity_any _ (tokL s k) HTL.out).mono ?_); rw [HX.out]; intro e_ w2_ hq0_; obtain ⟨rfl, hb_⟩ := idSome hq0_; clear hq0_; (have hq_ := HH.out.grow hb_); clear HH; have HH := hid hq_; clear hq_ hb_)
                          | ((with_reducible apply wpL_storeC (t := 38) (vs := x.cells)); rfl; rfl; (exact kS38); (exact HH.out); (exact .here); (exact Arr.len _); (exact cells_one _); (exact Arr.len _); rfl; (intro w_ hq_; clear HH; have HH := hid hq_; clear hq_))
                          | ((with_reducible apply wpL_loadArr (v := x) kA38 HH.out); rfl; (exact .here); rfl)
                          | ((with_reducible apply wpList_build (parts := #[]) (v := Id0.val)); (exact BZ38); rfl)
                          | ((with_reducible apply wpL_eqlA (b := true) (p := x) (q := Id0) kR38); rfl; rfl; (exact HZ.out); rfl)
                          | ((with_reducible apply wpL_nilCheck); rfl; rfl)
                          | ((with_reducible apply wpL_loadArr (t := 38) kA38 HH.out); rfl; (first | exact .here | exact .there .here | exact .there (.there .here) | exact .there (.there (.there .here)) | exact .there (.there (.there (.there .here))) | exact .there (.there (.there (.there (.there .here)))) | exact .there (.there (.there (.there (.there (.there .here))))) | exact .there (.there (.there (.there (.there (.there (.there .here))))))); rfl)
                          | ((with_reducible apply wpL_loadC (t := 38) kA38 HH.out); rfl; (first | exact .here | exact .there .here | exact .there (.there .here) | exact .there (.there (.there .here)) | exact .there (.there (.there (.there .here))) | exact .there (.there (.there (.there (.there .here)))) | exact .there (.there (.there (.there (.there (.there .here))))) | exact .there (.there (.there (.there (.there (.there (.there .here))))))); (first | rfl | exact Arr.len _ | (simp; done)); rfl)
                          | ((with_reducible apply wpL_len (t := 22) Try.underlying22); rfl; rfl)
                          | ((with_reducible apply wpL_allocC (dst := some 8) kZ38 HH.out); rfl; (intro g8_ w_ hq_; (try simp only [List.set_cons_zero, List.set_cons_succ] at hq_); clear HH; have HH := hid hq_; clear hq_))
                          | ((with_reducible apply wpL_storeArr (t := 38) kS38 HH.out); rfl; rfl; (first | exact .here | exact .there .here | exact .there (.there .here) | exact .there (.there (.there .here)) | exact .there (.there (.there (.there .here))) | exact .there (.there (.there (.there (.there .here)))) | exact .there (.there (.there (.there (.there (.there .here))))) | exact .there (.there (.there (.there (.there (.there (.there .here))))))); (first | rfl | exact Arr.len _ | (simp; done)); rfl; (intro w_ hq_; (try simp only [List.set_cons_zero, List.set_cons_succ] at hq_); clear HH; have HH := hid hq_; clear hq_))
                          | ((with_reducible apply wpL_storeC (t := 38)); rfl; rfl; (exact kS38); (exact HH.out); (first | exact .here | exact .there .here | exact .there (.there .here) | exact .there (.there (.there .here)) | exact .there (.there (.there (.there .here))) | exact .there (.there (.there (.there (.there .here)))) | exact .there (.there (.there (.there (.there (.there .here))))) | exact .there (.there (.there (.there (.there (.there (.there .here))))))); (first | rfl | exact Arr.len _ | (simp; done)); (first | rfl | (intro u_ hu_; simp only [List.mem_cons, List.not_mem_nil, or_false] at hu_; rcases hu_ with rfl | hu_; rfl) | exact byt_cell1 _ | exact cells_one _ | exact wrd_one _ | exact flat_cell1 _); (first | rfl | exact Arr.len _ | (simp; done)); rfl; (intro w_ hq_; (try simp only [List.set_cons_zero, List.set_cons_succ] at hq_); clear HH; have HH := hid hq_; clear hq_))
                          | ((with_reducible apply wpL_move); rfl; rfl)
                          | ((with_reducible apply wpL_assign); rfl; rfl)
                          | ((with_reducible apply wpL_pick); rfl; rfl; rfl)
                          | ((with_reducible apply wpL_not); rfl; rfl)
                          | ((with_reducible apply wpL_cmp (b := true)); rfl; rfl; rfl; (first | rfl | assumption | (simp only [cmpB, decide_eq_true_eq, decide_eq_false_iff_not, beq_iff_eq, bne_iff_ne, ne_eq, beq_eq_false_iff_ne, bne_eq_false_iff_eq, gt_iff_lt, ge_iff_le]; omega) | (simp; omega)); rfl)
                          | ((with_reducible apply wpL_cmp (b := false)); rfl; rfl; rfl; (first | rfl | assumption | (simp only [cmpB, decide_eq_true_eq, decide_eq_false_iff_not, beq_iff_eq, bne_iff_ne, ne_eq, beq_eq_false_iff_ne, bne_eq_false_iff_eq, gt_iff_lt, ge_iff_le]; omega) | (simp; omega)); rfl)
                          | ((with_reducible apply wpL_cmp); rfl; rfl; rfl; rfl; rfl)
                          | ((with_reducible apply wpL_arith); rfl; rfl; rfl; (exact IntWalk.i64_in _ (by (try simp only [arithI]); omega)); rfl)); (try simp only [arithI, Act.put, Act.eval, List.setIfInBounds_toArray, List.set_cons_succ, List.set_cons_zero, Array.getD_eq_getD_getElem?, List.getElem?_toArray, List.getElem?_cons_succ, List.getElem?_cons_zero, Option.getD_some])))
                    refine bodyPost_ret (res3 rfl (by rfl) (by rfl) (by rfl)) rfl ?_
                    exact RetPa.no (by rw [HP.out, HE.out, HA.out]) HH.out.below
                  | false =>
                    have HZ := hid hz
                    cases hc : out.contains x with
                    | true =>
                      have HC := hid hc
                      have HE := hid (parse_no hlt HB.out h20 HX.out (by rw [addE_seven hz hc]; decide))
                      have HA := hid (addE_seven hz hc)
                      clear hz hc
                      go_wp2_with (first
                        | ((first
                            | ((with_reducible apply wpL_skip); rfl; skip)
                            | ((with_reducible apply wpL_indexStr (dst := some 28) (l := s) (m := j) (v := d) Try.underlying9); rfl; rfl; rfl; (exact hjl); (exact HD.out); rfl)
                            | (go_at_call 40; (with_reducible refine (blankR_any _ d true HBD.out).mono ?_); rintro e_ w2_ ⟨rfl, rfl⟩)
                            | ((with_reducible apply wpL_sliceStr (l := s) (m := tokL s k) (i := k) (j := j) Try.underlying9); rfl; (exact .inr ⟨_, rfl⟩); (exact .inr ⟨_, rfl⟩); (exact hkj); (exact hj); (exact HTK.out); rfl)
                            | (go_at_call 41; (with_reducible refine (identity_any _ (tokL s k) HTL.out).mono ?_); rw [HX.out]; intro e_ w2_ hq0_; obtain ⟨rfl, hb_⟩ := idSome hq0_; clear hq0_; (have hq_ := HH.out.grow hb_); clear HH; have HH := hid hq_; clear hq_ hb_)
                            | ((with_reducible apply wpL_storeC (t := 38) (vs := x.cells)); rfl; rfl; (exact kS38); (exact HH.out); (exact .here); (exact Arr.len _); (exact cells_one _); (exact Arr.len _); rfl; (intro w_ hq_; clear HH; have HH := hid hq_; clear hq_))
                            | ((with_reducible apply wpL_loadArr (v := x) kA38 HH.out); rfl; (exact .here); rfl)
                            | ((with_reducible apply wpList_build (parts := #[]) (v := Id0.val)); (exact BZ38); rfl)
                            | ((with_reducible apply wpL_eqlA (b := false) (p := x) (q := Id0) kR38); rfl; rfl; (exact HZ.out); rfl)
                            | (go_at_call 37; (with_reducible refine (has_any _ _ out x HH.out.sl0 (by omega)).mono ?_); rw [HC.out]; rintro e_ w2_ ⟨rfl, hb_⟩; (have hq_ := HH.out.grow hb_); clear HH; have HH := hid hq_; clear hq_ hb_)
                            | ((with_reducible apply wpL_nilCheck); rfl; rfl)
                            | ((with_reducible apply wpL_loadArr (t := 38) kA38 HH.out); rfl; (first | exact .here | exact .there .here | exact .there (.there .here) | exact .there (.there (.there .here)) | exact .there (.there (.there (.there .here))) | exact .there (.there (.there (.there (.there .here)))) | exact .there (.there (.there (.there (.there (.there .here))))) | exact .there (.there (.there (.there (.there (.there (.there .here))))))); rfl)
                            | ((with_reducible apply wpL_loadC (t := 38) kA38 HH.out); rfl; (first | exact .here | exact .there .here | exact .there (.there .here) | exact .there (.there (.there .here)) | exact .there (.there (.there (.there .here))) | exact .there (.there (.there (.there (.there .here)))) | exact .there (.there (.there (.there (.there (.there .here))))) | exact .there (.there (.there (.there (.there (.there (.there .here))))))); (first | rfl | exact Arr.len _ | (simp; done)); rfl)
                            | ((with_reducible apply wpL_len (t := 22) Try.underlying22); rfl; rfl)
                            | ((with_reducible apply wpL_allocC (dst := some 8) kZ38 HH.out); rfl; (intro g8_ w_ hq_; (try simp only [List.set_cons_zero, List.set_cons_succ] at hq_); clear HH; have HH := hid hq_; clear hq_))
                            | ((with_reducible apply wpL_storeArr (t := 38) kS38 HH.out); rfl; rfl; (first | exact .here | exact .there .here | exact .there (.there .here) | exact .there (.there (.there .here)) | exact .there (.there (.there (.there .here))) | exact .there (.there (.there (.there (.there .here)))) | exact .there (.there (.there (.there (.there (.there .here))))) | exact .there (.there (.there (.there (.there (.there (.there .here))))))); (first | rfl | exact Arr.len _ | (simp; done)); rfl; (intro w_ hq_; (try simp only [List.set_cons_zero, List.set_cons_succ] at hq_); clear HH; have HH := hid hq_; clear hq_))
                            | ((with_reducible apply wpL_storeC (t := 38)); rfl; rfl; (exact kS38); (exact HH.out); (first | exact .here | exact .there .here | exact .there (.there .here) | exact .there (.there (.there .here)) | exact .there (.there (.there (.there .here))) | exact .there (.there (.there (.there (.there .here)))) | exact .there (.there (.there (.there (.there (.there .here))))) | exact .there (.there (.there (.there (.there (.there (.there .here))))))); (first | rfl | exact Arr.len _ | (simp; done)); (first | rfl | (intro u_ hu_; simp only [List.mem_cons, List.not_mem_nil, or_false] at hu_; rcases hu_ with rfl | hu_; rfl) | exact byt_cell1 _ | exact cells_one _ | exact wrd_one _ | exact flat_cell1 _); (first | rfl | exact Arr.len _ | (simp; done)); rfl; (intro w_ hq_; (try simp only [List.set_cons_zero, List.set_cons_succ] at hq_); clear HH; have HH := hid hq_; clear hq_))
                            | ((with_reducible apply wpL_move); rfl; rfl)
                            | ((with_reducible apply wpL_assign); rfl; rfl)
                            | ((with_reducible apply wpL_pick); rfl; rfl; rfl)
                            | ((with_reducible apply wpL_not); rfl; rfl)
                            | ((with_reducible apply wpL_cmp (b := true)); rfl; rfl; rfl; (first | rfl | assumption | (simp only [cmpB, decide_eq_true_eq, decide_eq_false_iff_not, beq_iff_eq, bne_iff_ne, ne_eq, beq_eq_false_iff_ne, bne_eq_false_iff_eq, gt_iff_lt, ge_iff_le]; omega) | (simp; omega)); rfl)
                            | ((with_reducible apply wpL_cmp (b := false)); rfl; rfl; rfl; (first | rfl | assumption | (simp only [cmpB, decide_eq_true_eq, decide_eq_false_iff_not, beq_iff_eq, bne_iff_ne, ne_eq, beq_eq_false_iff_ne, bne_eq_false_iff_eq, gt_iff_lt, ge_iff_le]; omega) | (simp; omega)); rfl)
                            | ((with_reducible apply wpL_cmp); rfl; rfl; rfl; rfl; rfl)
                            | ((with_reducible apply wpL_arith); rfl; rfl; rfl; (exact IntWalk.i64_in _ (by (try simp only [arithI]); omega)); rfl)); (try simp only [arithI, Act.put, Act.eval, List.setIfInBounds_toArray, List.set_cons_succ, List.set_cons_zero, Array.getD_eq_getD_getElem?, List.getElem?_toArray, List.getElem?_cons_succ, List.getElem?_cons_zero, Option.getD_some])))
                      refine bodyPost_ret (res3 rfl (by rfl) (by rfl) (by rfl)) rfl ?_
                      exact RetPa.no (by rw [HP.out, HE.out, HA.out]) HH.out.below
                    | false =>
                      have HC := hid hc
                      have HE := hid (parse_go hlt HB.out h20 HX.out (addE_zero hz hc) HTE.out)
                      clear hz hc
                      go_wp2_with (first
                        | ((first
                            | ((with_reducible apply wpL_skip); rfl; skip)
                            | ((with_reducible apply wpL_indexStr (dst := some 28) (l := s) (m := j) (v := d) Try.underlying9); rfl; rfl; rfl; (exact hjl); (exact HD.out); rfl)
                            | (go_at_call 40; (with_reducible refine (blankR_any _ d true HBD.out).mono ?_); rintro e_ w2_ ⟨rfl, rfl⟩)
                            | ((with_reducible apply wpL_sliceStr (l := s) (m := tokL s k) (i := k) (j := j) Try.underlying9); rfl; (exact .inr ⟨_, rfl⟩); (exact .inr ⟨_, rfl⟩); (exact hkj); (exact hj); (exact HTK.out); rfl)
                            | (go_at_call 41; (with_reducible refine (identity_any _ (tokL s k) HTL.out).mono ?_); rw [HX.out]; intro e_ w2_ hq0_; obtain ⟨rfl, hb_⟩ := idSome hq0_; clear hq0_; (have hq_ := HH.out.grow hb_); clear HH; have HH := hid hq_; clear hq_ hb_)
                            | ((with_reducible apply wpL_storeC (t := 38) (vs := x.cells)); rfl; rfl; (exact kS38); (exact HH.out); (exact .here); (exact Arr.len _); (exact cells_one _); (exact Arr.len _); rfl; (intro w_ hq_; clear HH; have HH := hid hq_; clear hq_))
                            | ((with_reducible apply wpL_loadArr (v := x) kA38 HH.out); rfl; (exact .here); rfl)
                            | ((with_reducible apply wpList_build (parts := #[]) (v := Id0.val)); (exact BZ38); rfl)
                            | ((with_reducible apply wpL_eqlA (b := false) (p := x) (q := Id0) kR38); rfl; rfl; (exact HZ.out); rfl)
                            | (go_at_call 37; (with_reducible refine (has_any _ _ out x HH.out.sl0 (by omega)).mono ?_); rw [HC.out]; rintro e_ w2_ ⟨rfl, hb_⟩; (have hq_ := HH.out.grow hb_); clear HH; have HH := hid hq_; clear hq_ hb_)
                            | ((with_reducible apply wpL_buildA kE22 x (by decide)); rfl; (exact HH.out); rfl; (intro g_ w_ hq_; clear HH; have HH := hid hq_; clear hq_))
                            | ((with_reducible apply wpL_appendA (l := out) (l2 := [x]) (r := out ++ [x]) kE22 HH.out.swap HH.out.sl0 rfl); rfl; rfl; (exact (by simp; omega)); rfl; rfl; rfl; (intro ao2 cap2 w_ hq_; clear HH; have HH := hid hq_.dropSnd; clear hq_))
                            | ((with_reducible apply wpL_nilCheck); rfl; rfl)
                            | ((with_reducible apply wpL_loadArr (t := 38) kA38 HH.out); rfl; (first | exact .here | exact .there .here | exact .there (.there .here) | exact .there (.there (.there .here)) | exact .there (.there (.there (.there .here))) | exact .there (.there (.there (.there (.there .here)))) | exact .there (.there (.there (.there (.there (.there .here))))) | exact .there (.there (.there (.there (.there (.there (.there .here))))))); rfl)
                            | ((with_reducible apply wpL_loadC (t := 38) kA38 HH.out); rfl; (first | exact .here | exact .there .here | exact .there (.there .here) | exact .there (.there (.there .here)) | exact .there (.there (.there (.there .here))) | exact .there (.there (.there (.there (.there .here)))) | exact .there (.there (.there (.there (.there (.there .here))))) | exact .there (.there (.there (.there (.there (.there (.there .here))))))); (first | rfl | exact Arr.len _ | (simp; done)); rfl)
                            | ((with_reducible apply wpL_len (t := 22) Try.underlying22); rfl; rfl)
                            | ((with_reducible apply wpL_allocC (dst := some 8) kZ38 HH.out); rfl; (intro g8_ w_ hq_; (try simp only [List.set_cons_zero, List.set_cons_succ] at hq_); clear HH; have HH := hid hq_; clear hq_))
                            | ((with_reducible apply wpL_storeArr (t := 38) kS38 HH.out); rfl; rfl; (first | exact .here | exact .there .here | exact .there (.there .here) | exact .there (.there (.there .here)) | exact .there (.there (.there (.there .here))) | exact .there (.there (.there (.there (.there .here)))) | exact .there (.there (.there (.there (.there (.there .here))))) | exact .there (.there (.there (.there (.there (.there (.there .here))))))); (first | rfl | exact Arr.len _ | (simp; done)); rfl; (intro w_ hq_; (try simp only [List.set_cons_zero, List.set_cons_succ] at hq_); clear HH; have HH := hid hq_; clear hq_))
                            | ((with_reducible apply wpL_storeC (t := 38)); rfl; rfl; (exact kS38); (exact HH.out); (first | exact .here | exact .there .here | exact .there (.there .here) | exact .there (.there (.there .here)) | exact .there (.there (.there (.there .here))) | exact .there (.there (.there (.there (.there .here)))) | exact .there (.there (.there (.there (.there (.there .here))))) | exact .there (.there (.there (.there (.there (.there (.there .here))))))); (first | rfl | exact Arr.len _ | (simp; done)); (first | rfl | (intro u_ hu_; simp only [List.mem_cons, List.not_mem_nil, or_false] at hu_; rcases hu_ with rfl | hu_; rfl) | exact byt_cell1 _ | exact cells_one _ | exact wrd_one _ | exact flat_cell1 _); (first | rfl | exact Arr.len _ | (simp; done)); rfl; (intro w_ hq_; (try simp only [List.set_cons_zero, List.set_cons_succ] at hq_); clear HH; have HH := hid hq_; clear hq_))
                            | ((with_reducible apply wpL_move); rfl; rfl)
                            | ((with_reducible apply wpL_assign); rfl; rfl)
                            | ((with_reducible apply wpL_pick); rfl; rfl; rfl)
                            | ((with_reducible apply wpL_not); rfl; rfl)
                            | ((with_reducible apply wpL_cmp (b := true)); rfl; rfl; rfl; (first | rfl | assumption | (simp only [cmpB, decide_eq_true_eq, decide_eq_false_iff_not, beq_iff_eq, bne_iff_ne, ne_eq, beq_eq_false_iff_ne, bne_eq_false_iff_eq, gt_iff_lt, ge_iff_le]; omega) | (simp; omega)); rfl)
                            | ((with_reducible apply wpL_cmp (b := false)); rfl; rfl; rfl; (first | rfl | assumption | (simp only [cmpB, decide_eq_true_eq, decide_eq_false_iff_not, beq_iff_eq, bne_iff_ne, ne_eq, beq_eq_false_iff_ne, bne_eq_false_iff_eq, gt_iff_lt, ge_iff_le]; omega) | (simp; omega)); rfl)
                            | ((with_reducible apply wpL_cmp); rfl; rfl; rfl; rfl; rfl)
                            | ((with_reducible apply wpL_arith); rfl; rfl; rfl; (exact IntWalk.i64_in _ (by (try simp only [arithI]); omega)); rfl)); (try simp only [arithI, Act.put, Act.eval, List.setIfInBounds_toArray, List.set_cons_succ, List.set_cons_zero, Array.getD_eq_getD_getElem?, List.getElem?_toArray, List.getElem?_cons_succ, List.getElem?_cons_zero, Option.getD_some])))
                      go_roundw
                      case rel => exact ⟨j, out ++ [x], _, _, hj, rfl, rfl, by rw [HP.out]; exact HE.out, by simp; omega, HH.out.dropBlk⟩
                      case measure => simp [intOf]; omega
          · have hend : j < s.length → blankB (s.getD j 0) = true := fun h => absurd h hjl
            obtain ⟨hte, htk⟩ := tok_end hkj hj HALL.out hend
            clear hend
            have hkj2 : k < j := hte ▸ tokEnd_gt hlt HB.out
            have HTE := hid hte
            have HTK := hid htk
            clear hte htk
            by_cases h20 : out.length = 20
            · have HE := hid (parse_full hlt HB.out h20)
              have H20 := hid h20
              have hb20 : ((out.length : Int) == 20) = true := by simp [h20]
              go_wp2_with (first
                | ((first
                    | ((with_reducible apply wpL_skip); rfl; skip)
                    | ((with_reducible apply wpL_indexStr (dst := some 28) (l := s) (m := j) (v := d) Try.underlying9); rfl; rfl; rfl; (exact hjl); (exact HD.out); rfl)
                    | (go_at_call 40; (with_reducible refine (blankR_any _ d true HBD.out).mono ?_); rintro e_ w2_ ⟨rfl, rfl⟩)
                    | ((with_reducible apply wpL_nilCheck); rfl; rfl)
                    | ((with_reducible apply wpL_loadArr (t := 38) kA38 HH.out); rfl; (first | exact .here | exact .there .here | exact .there (.there .here) | exact .there (.there (.there .here)) | exact .there (.there (.there (.there .here))) | exact .there (.there (.there (.there (.there .here)))) | exact .there (.there (.there (.there (.there (.there .here))))) | exact .there (.there (.there (.there (.there (.there (.there .here))))))); rfl)
                    | ((with_reducible apply wpL_loadC (t := 38) kA38 HH.out); rfl; (first | exact .here | exact .there .here | exact .there (.there .here) | exact .there (.there (.there .here)) | exact .there (.there (.there (.there .here))) | exact .there (.there (.there (.there (.there .here)))) | exact .there (.there (.there (.there (.there (.there .here))))) | exact .there (.there (.there (.there (.there (.there (.there .here))))))); (first | rfl | exact Arr.len _ | (simp; done)); rfl)
                    | ((with_reducible apply wpL_len (t := 22) Try.underlying22); rfl; rfl)
                    | ((with_reducible apply wpL_allocC (dst := some 8) kZ38 HH.out); rfl; (intro g8_ w_ hq_; (try simp only [List.set_cons_zero, List.set_cons_succ] at hq_); clear HH; have HH := hid hq_; clear hq_))
                    | ((with_reducible apply wpL_storeArr (t := 38) kS38 HH.out); rfl; rfl; (first | exact .here | exact .there .here | exact .there (.there .here) | exact .there (.there (.there .here)) | exact .there (.there (.there (.there .here))) | exact .there (.there (.there (.there (.there .here)))) | exact .there (.there (.there (.there (.there (.there .here))))) | exact .there (.there (.there (.there (.there (.there (.there .here))))))); (first | rfl | exact Arr.len _ | (simp; done)); rfl; (intro w_ hq_; (try simp only [List.set_cons_zero, List.set_cons_succ] at hq_); clear HH; have HH := hid hq_; clear hq_))
                    | ((with_reducible apply wpL_storeC (t := 38)); rfl; rfl; (exact kS38); (exact HH.out); (first | exact .here | exact .there .here | exact .there (.there .here) | exact .there (.there (.there .here)) | exact .there (.there (.there (.there .here))) | exact .there (.there (.there (.there (.there .here)))) | exact .there (.there (.there (.there (.there (.there .here))))) | exact .there (.there (.there (.there (.there (.there (.there .here))))))); (first | rfl | exact Arr.len _ | (simp; done)); (first | rfl | (intro u_ hu_; simp only [List.mem_cons, List.not_mem_nil, or_false] at hu_; rcases hu_ with rfl | hu_; rfl) | exact byt_cell1 _ | exact cells_one _ | exact wrd_one _ | exact flat_cell1 _); (first | rfl | exact Arr.len _ | (simp; done)); rfl; (intro w_ hq_; (try simp only [List.set_cons_zero, List.set_cons_succ] at hq_); clear HH; have HH := hid hq_; clear hq_))
                    | ((with_reducible apply wpL_move); rfl; rfl)
                    | ((with_reducible apply wpL_assign); rfl; rfl)
                    | ((with_reducible apply wpL_pick); rfl; rfl; rfl)
                    | ((with_reducible apply wpL_not); rfl; rfl)
                    | ((with_reducible apply wpL_cmp (b := true)); rfl; rfl; rfl; (first | rfl | assumption | (simp only [cmpB, decide_eq_true_eq, decide_eq_false_iff_not, beq_iff_eq, bne_iff_ne, ne_eq, beq_eq_false_iff_ne, bne_eq_false_iff_eq, gt_iff_lt, ge_iff_le]; omega) | (simp; omega)); rfl)
                    | ((with_reducible apply wpL_cmp (b := false)); rfl; rfl; rfl; (first | rfl | assumption | (simp only [cmpB, decide_eq_true_eq, decide_eq_false_iff_not, beq_iff_eq, bne_iff_ne, ne_eq, beq_eq_false_iff_ne, bne_eq_false_iff_eq, gt_iff_lt, ge_iff_le]; omega) | (simp; omega)); rfl)
                    | ((with_reducible apply wpL_cmp); rfl; rfl; rfl; rfl; rfl)
                    | ((with_reducible apply wpL_arith); rfl; rfl; rfl; (exact IntWalk.i64_in _ (by (try simp only [arithI]); omega)); rfl)); (try simp only [arithI, Act.put, Act.eval, List.setIfInBounds_toArray, List.set_cons_succ, List.set_cons_zero, Array.getD_eq_getD_getElem?, List.getElem?_toArray, List.getElem?_cons_succ, List.getElem?_cons_zero, Option.getD_some])))
              refine bodyPost_ret (res3 rfl (by rfl) (by rfl) (by rfl)) rfl ?_
              exact RetPa.no (by rw [HP.out]; exact HE.out) HH.out.below
            · have hb20 : ((out.length : Int) == 20) = false := by simp; omega
              cases hx : identL (tokL s k) with
              | none =>
                have HE := hid (parse_bad hlt HB.out h20 hx)
                have HX := hid hx
                clear hx
                go_wp2_with (first
                  | ((first
                      | ((with_reducible apply wpL_skip); rfl; skip)
                      | ((with_reducible apply wpL_indexStr (dst := some 28) (l := s) (m := j) (v := d) Try.underlying9); rfl; rfl; rfl; (exact hjl); (exact HD.out); rfl)
                      | (go_at_call 40; (with_reducible refine (blankR_any _ d true HBD.out).mono ?_); rintro e_ w2_ ⟨rfl, rfl⟩)
                      | ((with_reducible apply wpL_sliceStr (l := s) (m := tokL s k) (i := k) (j := j) Try.underlying9); rfl; (exact .inr ⟨_, rfl⟩); (exact .inr ⟨_, rfl⟩); (exact hkj); (exact hj); (exact HTK.out); rfl)
                      | (go_at_call 41; (with_reducible refine (identity_any _ (tokL s k) HTL.out).mono ?_); rw [HX.out]; intro e_ w2_ hq0_; obtain ⟨rfl, hb_⟩ := idNone hq0_; clear hq0_; (have hq_ := HH.out.grow hb_); clear HH; have HH := hid hq_; clear hq_ hb_)
                      | ((with_reducible apply wpL_storeC (t := 38) (vs := Id0.cells)); rfl; rfl; (exact kS38); (exact HH.out); (exact .here); (exact Arr.len _); (exact cells_one _); (exact Arr.len _); rfl; (intro w_ hq_; clear HH; have HH := hid hq_; clear hq_))
                      | ((with_reducible apply wpL_nilCheck); rfl; rfl)
                      | ((with_reducible apply wpL_loadArr (t := 38) kA38 HH.out); rfl; (first | exact .here | exact .there .here | exact .there (.there .here) | exact .there (.there (.there .here)) | exact .there (.there (.there (.there .here))) | exact .there (.there (.there (.there (.there .here)))) | exact .there (.there (.there (.there (.there (.there .here))))) | exact .there (.there (.there (.there (.there (.there (.there .here))))))); rfl)
                      | ((with_reducible apply wpL_loadC (t := 38) kA38 HH.out); rfl; (first | exact .here | exact .there .here | exact .there (.there .here) | exact .there (.there (.there .here)) | exact .there (.there (.there (.there .here))) | exact .there (.there (.there (.there (.there .here)))) | exact .there (.there (.there (.there (.there (.there .here))))) | exact .there (.there (.there (.there (.there (.there (.there .here))))))); (first | rfl | exact Arr.len _ | (simp; done)); rfl)
                      | ((with_reducible apply wpL_len (t := 22) Try.underlying22); rfl; rfl)
                      | ((with_reducible apply wpL_allocC (dst := some 8) kZ38 HH.out); rfl; (intro g8_ w_ hq_; (try simp only [List.set_cons_zero, List.set_cons_succ] at hq_); clear HH; have HH := hid hq_; clear hq_))
                      | ((with_reducible apply wpL_storeArr (t := 38) kS38 HH.out); rfl; rfl; (first | exact .here | exact .there .here | exact .there (.there .here) | exact .there (.there (.there .here)) | exact .there (.there (.there (.there .here))) | exact .there (.there (.there (.there (.there .here)))) | exact .there (.there (.there (.there (.there (.there .here))))) | exact .there (.there (.there (.there (.there (.there (.there .here))))))); (first | rfl | exact Arr.len _ | (simp; done)); rfl; (intro w_ hq_; (try simp only [List.set_cons_zero, List.set_cons_succ] at hq_); clear HH; have HH := hid hq_; clear hq_))
                      | ((with_reducible apply wpL_storeC (t := 38)); rfl; rfl; (exact kS38); (exact HH.out); (first | exact .here | exact .there .here | exact .there (.there .here) | exact .there (.there (.there .here)) | exact .there (.there (.there (.there .here))) | exact .there (.there (.there (.there (.there .here)))) | exact .there (.there (.there (.there (.there (.there .here))))) | exact .there (.there (.there (.there (.there (.there (.there .here))))))); (first | rfl | exact Arr.len _ | (simp; done)); (first | rfl | (intro u_ hu_; simp only [List.mem_cons, List.not_mem_nil, or_false] at hu_; rcases hu_ with rfl | hu_; rfl) | exact byt_cell1 _ | exact cells_one _ | exact wrd_one _ | exact flat_cell1 _); (first | rfl | exact Arr.len _ | (simp; done)); rfl; (intro w_ hq_; (try simp only [List.set_cons_zero, List.set_cons_succ] at hq_); clear HH; have HH := hid hq_; clear hq_))
                      | ((with_reducible apply wpL_move); rfl; rfl)
                      | ((with_reducible apply wpL_assign); rfl; rfl)
                      | ((with_reducible apply wpL_pick); rfl; rfl; rfl)
                      | ((with_reducible apply wpL_not); rfl; rfl)
                      | ((with_reducible apply wpL_cmp (b := true)); rfl; rfl; rfl; (first | rfl | assumption | (simp only [cmpB, decide_eq_true_eq, decide_eq_false_iff_not, beq_iff_eq, bne_iff_ne, ne_eq, beq_eq_false_iff_ne, bne_eq_false_iff_eq, gt_iff_lt, ge_iff_le]; omega) | (simp; omega)); rfl)
                      | ((with_reducible apply wpL_cmp (b := false)); rfl; rfl; rfl; (first | rfl | assumption | (simp only [cmpB, decide_eq_true_eq, decide_eq_false_iff_not, beq_iff_eq, bne_iff_ne, ne_eq, beq_eq_false_iff_ne, bne_eq_false_iff_eq, gt_iff_lt, ge_iff_le]; omega) | (simp; omega)); rfl)
                      | ((with_reducible apply wpL_cmp); rfl; rfl; rfl; rfl; rfl)
                      | ((with_reducible apply wpL_arith); rfl; rfl; rfl; (exact IntWalk.i64_in _ (by (try simp only [arithI]); omega)); rfl)); (try simp only [arithI, Act.put, Act.eval, List.setIfInBounds_toArray, List.set_cons_succ, List.set_cons_zero, Array.getD_eq_getD_getElem?, List.getElem?_toArray, List.getElem?_cons_succ, List.getElem?_cons_zero, Option.getD_some])))
                refine bodyPost_ret (res3 rfl (by rfl) (by rfl) (by rfl)) rfl ?_
                exact RetPa.no (by rw [HP.out]; exact HE.out) HH.out.below
              | some x =>
                have HX := hid hx
                clear hx
                cases hz : (x == Id0) with
                | true =>
                  have HZ := hid hz
                  have HE := hid (parse_no hlt HB.out h20 HX.out (by rw [addE_one hz]; decide))
                  have HA := hid (addE_one (l := out) hz)
                  clear hz
                  go_wp2_with (first
                    | ((first
                        | ((with_reducible apply wpL_skip); rfl; skip)
                        | ((with_reducible apply wpL_indexStr (dst := some 28) (l := s) (m := j) (v := d) Try.underlying9); rfl; rfl; rfl; (exact hjl); (exact HD.out); rfl)
                        | (go_at_call 40; (with_reducible refine (blankR_any _ d true HBD.out).mono ?_); rintro e_ w2_ ⟨rfl, rfl⟩)
                        | ((with_reducible apply wpL_sliceStr (l := s) (m := tokL s k) (i := k) (j := j) Try.underlying9); rfl; (exact .inr ⟨_, rfl⟩); (exact .inr ⟨_, rfl⟩); (exact hkj); (exact hj); (exact HTK.out); rfl)
                        | (go_at_call 41; (with_reducible refine (identity_any _ (tokL s k) HTL.out).mono ?_); rw [HX.out]; intro e_ w2_ hq0_; obtain ⟨rfl, hb_⟩ := idSome hq0_; clear hq0_; (have hq_ := HH.out.grow hb_); clear HH; have HH := hid hq_; clear hq_ hb_)
                        | ((with_reducible apply wpL_storeC (t := 38) (vs := x.cells)); rfl; rfl; (exact kS38); (exact HH.out); (exact .here); (exact Arr.len _); (exact cells_one _); (exact Arr.len _); rfl; (intro w_ hq_; clear HH; have HH := hid hq_; clear hq_))
                        | ((with_reducible apply wpL_loadArr (v := x) kA38 HH.out); rfl; (exact .here); rfl)
                        | ((with_reducible apply wpList_build (parts := #[]) (v := Id0.val)); (exact BZ38); rfl)
                        | ((with_reducible apply wpL_eqlA (b := true) (p := x) (q := Id0) kR38); rfl; rfl; (exact HZ.out); rfl)
                        | ((with_reducible apply wpL_nilCheck); rfl; rfl)
                        | ((with_reducible apply wpL_loadArr (t := 38) kA38 HH.out); rfl; (first | exact .here | exact .there .here | exact .there (.there .here) | exact .there (.there (.there .here)) | exact .there (.there (.there (.there .here))) | exact .there (.there (.there (.there (.there .here)))) | exact .there (.there (.there (.there (.there (.there .here))))) | exact .there (.there (.there (.there (.there (.there (.there .here))))))); rfl)
                        | ((with_reducible apply wpL_loadC (t := 38) kA38 HH.out); rfl; (first | exact .here | exact .there .here | exact .there (.there .here) | exact .there (.there (.there .here)) | exact .there (.there (.there (.there .here))) | exact .there (.there (.there (.there (.there .here)))) | exact .there (.there (.there (.there (.there (.there .here))))) | exact .there (.there (.there (.there (.there (.there (.there .here))))))); (first | rfl | exact Arr.len _ | (simp; done)); rfl)
                        | ((with_reducible apply wpL_len (t := 22) Try.underlying22); rfl; rfl)
                        | ((with_reducible apply wpL_allocC (dst := some 8) kZ38 HH.out); rfl; (intro g8_ w_ hq_; (try simp only [List.set_cons_zero, List.set_cons_succ] at hq_); clear HH; have HH := hid hq_; clear hq_))
                        | ((with_reducible apply wpL_storeArr (t := 38) kS38 HH.out); rfl; rfl; (first | exact .here | exact .there .here | exact .there (.there .here) | exact .there (.there (.there .here)) | exact .there (.there (.there (.there .here))) | exact .there (.there (.there (.there (.there .here)))) | exact .there (.there (.there (.there (.there (.there .here))))) | exact .there (.there (.there (.there (.there (.there (.there .here))))))); (first | rfl | exact Arr.len _ | (simp; done)); rfl; (intro w_ hq_; (try simp only [List.set_cons_zero, List.set_cons_succ] at hq_); clear HH; have HH := hid hq_; clear hq_))
                        | ((with_reducible apply wpL_storeC (t := 38)); rfl; rfl; (exact kS38); (exact HH.out); (first | exact .here | exact .there .here | exact .there (.there .here) | exact .there (.there (.there .here)) | exact .there (.there (.there (.there .here))) | exact .there (.there (.there (.there (.there .here)))) | exact .there (.there (.there (.there (.there (.there .here))))) | exact .there (.there (.there (.there (.there (.there (.there .here))))))); (first | rfl | exact Arr.len _ | (simp; done)); (first | rfl | (intro u_ hu_; simp only [List.mem_cons, List.not_mem_nil, or_false] at hu_; rcases hu_ with rfl | hu_; rfl) | exact byt_cell1 _ | exact cells_one _ | exact wrd_one _ | exact flat_cell1 _); (first | rfl | exact Arr.len _ | (simp; done)); rfl; (intro w_ hq_; (try simp only [List.set_cons_zero, List.set_cons_succ] at hq_); clear HH; have HH := hid hq_; clear hq_))
                        | ((with_reducible apply wpL_move); rfl; rfl)
                        | ((with_reducible apply wpL_assign); rfl; rfl)
                        | ((with_reducible apply wpL_pick); rfl; rfl; rfl)
                        | ((with_reducible apply wpL_not); rfl; rfl)
                        | ((with_reducible apply wpL_cmp (b := true)); rfl; rfl; rfl; (first | rfl | assumption | (simp only [cmpB, decide_eq_true_eq, decide_eq_false_iff_not, beq_iff_eq, bne_iff_ne, ne_eq, beq_eq_false_iff_ne, bne_eq_false_iff_eq, gt_iff_lt, ge_iff_le]; omega) | (simp; omega)); rfl)
                        | ((with_reducible apply wpL_cmp (b := false)); rfl; rfl; rfl; (first | rfl | assumption | (simp only [cmpB, decide_eq_true_eq, decide_eq_false_iff_not, beq_iff_eq, bne_iff_ne, ne_eq, beq_eq_false_iff_ne, bne_eq_false_iff_eq, gt_iff_lt, ge_iff_le]; omega) | (simp; omega)); rfl)
                        | ((with_reducible apply wpL_cmp); rfl; rfl; rfl; rfl; rfl)
                        | ((with_reducible apply wpL_arith); rfl; rfl; rfl; (exact IntWalk.i64_in _ (by (try simp only [arithI]); omega)); rfl)); (try simp only [arithI, Act.put, Act.eval, List.setIfInBounds_toArray, List.set_cons_succ, List.set_cons_zero, Array.getD_eq_getD_getElem?, List.getElem?_toArray, List.getElem?_cons_succ, List.getElem?_cons_zero, Option.getD_some])))
                  refine bodyPost_ret (res3 rfl (by rfl) (by rfl) (by rfl)) rfl ?_
                  exact RetPa.no (by rw [HP.out, HE.out, HA.out]) HH.out.below
                | false =>
                  have HZ := hid hz
                  cases hc : out.contains x with
                  | true =>
                    have HC := hid hc
                    have HE := hid (parse_no hlt HB.out h20 HX.out (by rw [addE_seven hz hc]; decide))
                    have HA := hid (addE_seven hz hc)
                    clear hz hc
                    go_wp2_with (first
                      | ((first
                          | ((with_reducible apply wpL_skip); rfl; skip)
                          | ((with_reducible apply wpL_indexStr (dst := some 28) (l := s) (m := j) (v := d) Try.underlying9); rfl; rfl; rfl; (exact hjl); (exact HD.out); rfl)
                          | (go_at_call 40; (with_reducible refine (blankR_any _ d true HBD.out).mono ?_); rintro e_ w2_ ⟨rfl, rfl⟩)
                          | ((with_reducible apply wpL_sliceStr (l := s) (m := tokL s k) (i := k) (j := j) Try.underlying9); rfl; (exact .inr ⟨_, rfl⟩); (exact .inr ⟨_, rfl⟩); (exact hkj); (exact hj); (exact HTK.out); rfl)
                          | (go_at_call 41; (with_reducible refine (identity_any _ (tokL s k) HTL.out).mono ?_); rw [HX.out]; intro e_ w2_ hq0_; obtain ⟨rfl, hb_⟩ := idSome hq0_; clear hq0_; (have hq_ := HH.out.grow hb_); clear HH; have HH := hid hq_; clear hq_ hb_)
                          | ((with_reducible apply wpL_storeC (t := 38) (vs := x.cells)); rfl; rfl; (exact kS38); (exact HH.out); (exact .here); (exact Arr.len _); (exact cells_one _); (exact Arr.len _); rfl; (intro w_ hq_; clear HH; have HH := hid hq_; clear hq_))
                          | ((with_reducible apply wpL_loadArr (v := x) kA38 HH.out); rfl; (exact .here); rfl)
                          | ((with_reducible apply wpList_build (parts := #[]) (v := Id0.val)); (exact BZ38); rfl)
                          | ((with_reducible apply wpL_eqlA (b := false) (p := x) (q := Id0) kR38); rfl; rfl; (exact HZ.out); rfl)
                          | (go_at_call 37; (with_reducible refine (has_any _ _ out x HH.out.sl0 (by omega)).mono ?_); rw [HC.out]; rintro e_ w2_ ⟨rfl, hb_⟩; (have hq_ := HH.out.grow hb_); clear HH; have HH := hid hq_; clear hq_ hb_)
                          | ((with_reducible apply wpL_nilCheck); rfl; rfl)
                          | ((with_reducible apply wpL_loadArr (t := 38) kA38 HH.out); rfl; (first | exact .here | exact .there .here | exact .there (.there .here) | exact .there (.there (.there .here)) | exact .there (.there (.there (.there .here))) | exact .there (.there (.there (.there (.there .here)))) | exact .there (.there (.there (.there (.there (.there .here))))) | exact .there (.there (.there (.there (.there (.there (.there .here))))))); rfl)
                          | ((with_reducible apply wpL_loadC (t := 38) kA38 HH.out); rfl; (first | exact .here | exact .there .here | exact .there (.there .here) | exact .there (.there (.there .here)) | exact .there (.there (.there (.there .here))) | exact .there (.there (.there (.there (.there .here)))) | exact .there (.there (.there (.there (.there (.there .here))))) | exact .there (.there (.there (.there (.there (.there (.there .here))))))); (first | rfl | exact Arr.len _ | (simp; done)); rfl)
                          | ((with_reducible apply wpL_len (t := 22) Try.underlying22); rfl; rfl)
                          | ((with_reducible apply wpL_allocC (dst := some 8) kZ38 HH.out); rfl; (intro g8_ w_ hq_; (try simp only [List.set_cons_zero, List.set_cons_succ] at hq_); clear HH; have HH := hid hq_; clear hq_))
                          | ((with_reducible apply wpL_storeArr (t := 38) kS38 HH.out); rfl; rfl; (first | exact .here | exact .there .here | exact .there (.there .here) | exact .there (.there (.there .here)) | exact .there (.there (.there (.there .here))) | exact .there (.there (.there (.there (.there .here)))) | exact .there (.there (.there (.there (.there (.there .here))))) | exact .there (.there (.there (.there (.there (.there (.there .here))))))); (first | rfl | exact Arr.len _ | (simp; done)); rfl; (intro w_ hq_; (try simp only [List.set_cons_zero, List.set_cons_succ] at hq_); clear HH; have HH := hid hq_; clear hq_))
                          | ((with_reducible apply wpL_storeC (t := 38)); rfl; rfl; (exact kS38); (exact HH.out); (first | exact .here | exact .there .here | exact .there (.there .here) | exact .there (.there (.there .here)) | exact .there (.there (.there (.there .here))) | exact .there (.there (.there (.there (.there .here)))) | exact .there (.there (.there (.there (.there (.there .here))))) | exact .there (.there (.there (.there (.there (.there (.there .here))))))); (first | rfl | exact Arr.len _ | (simp; done)); (first | rfl | (intro u_ hu_; simp only [List.mem_cons, List.not_mem_nil, or_false] at hu_; rcases hu_ with rfl | hu_; rfl) | exact byt_cell1 _ | exact cells_one _ | exact wrd_one _ | exact flat_cell1 _); (first | rfl | exact Arr.len _ | (simp; done)); rfl; (intro w_ hq_; (try simp only [List.set_cons_zero, List.set_cons_succ] at hq_); clear HH; have HH := hid hq_; clear hq_))
                          | ((with_reducible apply wpL_move); rfl; rfl)
                          | ((with_reducible apply wpL_assign); rfl; rfl)
                          | ((with_reducible apply wpL_pick); rfl; rfl; rfl)
                          | ((with_reducible apply wpL_not); rfl; rfl)
                          | ((with_reducible apply wpL_cmp (b := true)); rfl; rfl; rfl; (first | rfl | assumption | (simp only [cmpB, decide_eq_true_eq, decide_eq_false_iff_not, beq_iff_eq, bne_iff_ne, ne_eq, beq_eq_false_iff_ne, bne_eq_false_iff_eq, gt_iff_lt, ge_iff_le]; omega) | (simp; omega)); rfl)
                          | ((with_reducible apply wpL_cmp (b := false)); rfl; rfl; rfl; (first | rfl | assumption | (simp only [cmpB, decide_eq_true_eq, decide_eq_false_iff_not, beq_iff_eq, bne_iff_ne, ne_eq, beq_eq_false_iff_ne, bne_eq_false_iff_eq, gt_iff_lt, ge_iff_le]; omega) | (simp; omega)); rfl)
                          | ((with_reducible apply wpL_cmp); rfl; rfl; rfl; rfl; rfl)
                          | ((with_reducible apply wpL_arith); rfl; rfl; rfl; (exact IntWalk.i64_in _ (by (try simp only [arithI]); omega)); rfl)); (try simp only [arithI, Act.put, Act.eval, List.setIfInBounds_toArray, List.set_cons_succ, List.set_cons_zero, Array.getD_eq_getD_getElem?, List.getElem?_toArray, List.getElem?_cons_succ, List.getElem?_cons_zero, Option.getD_some])))
                    refine bodyPost_ret (res3 rfl (by rfl) (by rfl) (by rfl)) rfl ?_
                    exact RetPa.no (by rw [HP.out, HE.out, HA.out]) HH.out.below
                  | false =>
                    have HC := hid hc
                    have HE := hid (parse_go hlt HB.out h20 HX.out (addE_zero hz hc) HTE.out)
                    clear hz hc
                    go_wp2_with (first
                      | ((first
                          | ((with_reducible apply wpL_skip); rfl; skip)
                          | ((with_reducible apply wpL_indexStr (dst := some 28) (l := s) (m := j) (v := d) Try.underlying9); rfl; rfl; rfl; (exact hjl); (exact HD.out); rfl)
                          | (go_at_call 40; (with_reducible refine (blankR_any _ d true HBD.out).mono ?_); rintro e_ w2_ ⟨rfl, rfl⟩)
                          | ((with_reducible apply wpL_sliceStr (l := s) (m := tokL s k) (i := k) (j := j) Try.underlying9); rfl; (exact .inr ⟨_, rfl⟩); (exact .inr ⟨_, rfl⟩); (exact hkj); (exact hj); (exact HTK.out); rfl)
                          | (go_at_call 41; (with_reducible refine (identity_any _ (tokL s k) HTL.out).mono ?_); rw [HX.out]; intro e_ w2_ hq0_; obtain ⟨rfl, hb_⟩ := idSome hq0_; clear hq0_; (have hq_ := HH.out.grow hb_); clear HH; have HH := hid hq_; clear hq_ hb_)
                          | ((with_reducible apply wpL_storeC (t := 38) (vs := x.cells)); rfl; rfl; (exact kS38); (exact HH.out); (exact .here); (exact Arr.len _); (exact cells_one _); (exact Arr.len _); rfl; (intro w_ hq_; clear HH; have HH := hid hq_; clear hq_))
                          | ((with_reducible apply wpL_loadArr (v := x) kA38 HH.out); rfl; (exact .here); rfl)
                          | ((with_reducible apply wpList_build (parts := #[]) (v := Id0.val)); (exact BZ38); rfl)
                          | ((with_reducible apply wpL_eqlA (b := false) (p := x) (q := Id0) kR38); rfl; rfl; (exact HZ.out); rfl)
                          | (go_at_call 37; (with_reducible refine (has_any _ _ out x HH.out.sl0 (by omega)).mono ?_); rw [HC.out]; rintro e_ w2_ ⟨rfl, hb_⟩; (have hq_ := HH.out.grow hb_); clear HH; have HH := hid hq_; clear hq_ hb_)
                          | ((with_reducible apply wpL_buildA kE22 x (by decide)); rfl; (exact HH.out); rfl; (intro g_ w_ hq_; clear HH; have HH := hid hq_; clear hq_))
                          | ((with_reducible apply wpL_appendA (l := out) (l2 := [x]) (r := out ++ [x]) kE22 HH.out.swap HH.out.sl0 rfl); rfl; rfl; (exact (by simp; omega)); rfl; rfl; rfl; (intro ao2 cap2 w_ hq_; clear HH; have HH := hid hq_.dropSnd; clear hq_))
                          | ((with_reducible apply wpL_nilCheck); rfl; rfl)
                          | ((with_reducible apply wpL_loadArr (t := 38) kA38 HH.out); rfl; (first | exact .here | exact .there .here | exact .there (.there .here) | exact .there (.there (.there .here)) | exact .there (.there (.there (.there .here))) | exact .there (.there (.there (.there (.there .here)))) | exact .there (.there (.there (.there (.there (.there .here))))) | exact .there (.there (.there (.there (.there (.there (.there .here))))))); rfl)
                          | ((with_reducible apply wpL_loadC (t := 38) kA38 HH.out); rfl; (first | exact .here | exact .there .here | exact .there (.there .here) | exact .there (.there (.there .here)) | exact .there (.there (.there (.there .here))) | exact .there (.there (.there (.there (.there .here)))) | exact .there (.there (.there (.there (.there (.there .here))))) | exact .there (.there (.there (.there (.there (.there (.there .here))))))); (first | rfl | exact Arr.len _ | (simp; done)); rfl)
                          | ((with_reducible apply wpL_len (t := 22) Try.underlying22); rfl; rfl)
                          | ((with_reducible apply wpL_allocC (dst := some 8) kZ38 HH.out); rfl; (intro g8_ w_ hq_; (try simp only [List.set_cons_zero, List.set_cons_succ] at hq_); clear HH; have HH := hid hq_; clear hq_))
                          | ((with_reducible apply wpL_storeArr (t := 38) kS38 HH.out); rfl; rfl; (first | exact .here | exact .there .here | exact .there (.there .here) | exact .there (.there (.there .here)) | exact .there (.there (.there (.there .here))) | exact .there (.there (.there (.there (.there .here)))) | exact .there (.there (.there (.there (.there (.there .here))))) | exact .there (.there (.there (.there (.there (.there (.there .here))))))); (first | rfl | exact Arr.len _ | (simp; done)); rfl; (intro w_ hq_; (try simp only [List.set_cons_zero, List.set_cons_succ] at hq_); clear HH; have HH := hid hq_; clear hq_))
                          | ((with_reducible apply wpL_storeC (t := 38)); rfl; rfl; (exact kS38); (exact HH.out); (first | exact .here | exact .there .here | exact .there (.there .here) | exact .there (.there (.there .here)) | exact .there (.there (.there (.there .here))) | exact .there (.there (.there (.there (.there .here)))) | exact .there (.there (.there (.there (.there (.there .here))))) | exact .there (.there (.there (.there (.there (.there (.there .here))))))); (first | rfl | exact Arr.len _ | (simp; done)); (first | rfl | (intro u_ hu_; simp only [List.mem_cons, List.not_mem_nil, or_false] at hu_; rcases hu_ with rfl | hu_; rfl) | exact byt_cell1 _ | exact cells_one _ | exact wrd_one _ | exact flat_cell1 _); (first | rfl | exact Arr.len _ | (simp; done)); rfl; (intro w_ hq_; (try simp only [List.set_cons_zero, List.set_cons_succ] at hq_); clear HH; have HH := hid hq_; clear hq_))
                          | ((with_reducible apply wpL_move); rfl; rfl)
                          | ((with_reducible apply wpL_assign); rfl; rfl)
                          | ((with_reducible apply wpL_pick); rfl; rfl; rfl)
                          | ((with_reducible apply wpL_not); rfl; rfl)
                          | ((with_reducible apply wpL_cmp (b := true)); rfl; rfl; rfl; (first | rfl | assumption | (simp only [cmpB, decide_eq_true_eq, decide_eq_false_iff_not, beq_iff_eq, bne_iff_ne, ne_eq, beq_eq_false_iff_ne, bne_eq_false_iff_eq, gt_iff_lt, ge_iff_le]; omega) | (simp; omega)); rfl)
                          | ((with_reducible apply wpL_cmp (b := false)); rfl; rfl; rfl; (first | rfl | assumption | (simp only [cmpB, decide_eq_true_eq, decide_eq_false_iff_not, beq_iff_eq, bne_iff_ne, ne_eq, beq_eq_false_iff_ne, bne_eq_false_iff_eq, gt_iff_lt, ge_iff_le]; omega) | (simp; omega)); rfl)
                          | ((with_reducible apply wpL_cmp); rfl; rfl; rfl; rfl; rfl)
                          | ((with_reducible apply wpL_arith); rfl; rfl; rfl; (exact IntWalk.i64_in _ (by (try simp only [arithI]); omega)); rfl)); (try simp only [arithI, Act.put, Act.eval, List.setIfInBounds_toArray, List.set_cons_succ, List.set_cons_zero, Array.getD_eq_getD_getElem?, List.getElem?_toArray, List.getElem?_cons_succ, List.getElem?_cons_zero, Option.getD_some])))
                    go_roundw
                    case rel => exact ⟨j, out ++ [x], _, _, hj, rfl, rfl, by rw [HP.out]; exact HE.out, by simp; omega, HH.out.dropBlk⟩
                    case measure => simp [intOf]; omega
    · skip
      go_wp2_with (first
        | ((first
            | ((with_reducible apply wpL_skip); rfl; skip)
            | ((with_reducible apply wpL_nilCheck); rfl; rfl)
            | ((with_reducible apply wpL_loadArr (t := 38) kA38 HH.out); rfl; (first | exact .here | exact .there .here | exact .there (.there .here) | exact .there (.there (.there .here)) | exact .there (.there (.there (.there .here))) | exact .there (.there (.there (.there (.there .here)))) | exact .there (.there (.there (.there (.there (.there .here))))) | exact .there (.there (.there (.there (.there (.there (.there .here))))))); rfl)
            | ((with_reducible apply wpL_loadC (t := 38) kA38 HH.out); rfl; (first | exact .here | exact .there .here | exact .there (.there .here) | exact .there (.there (.there .here)) | exact .there (.there (.there (.there .here))) | exact .there (.there (.there (.there (.there .here)))) | exact .there (.there (.there (.there (.there (.there .here))))) | exact .there (.there (.there (.there (.there (.there (.there .here))))))); (first | rfl | exact Arr.len _ | (simp; done)); rfl)
            | ((with_reducible apply wpL_len (t := 22) Try.underlying22); rfl; rfl)
            | ((with_reducible apply wpL_allocC (dst := some 8) kZ38 HH.out); rfl; (intro g8_ w_ hq_; (try simp only [List.set_cons_zero, List.set_cons_succ] at hq_); clear HH; have HH := hid hq_; clear hq_))
            | ((with_reducible apply wpL_storeArr (t := 38) kS38 HH.out); rfl; rfl; (first | exact .here | exact .there .here | exact .there (.there .here) | exact .there (.there (.there .here)) | exact .there (.there (.there (.there .here))) | exact .there (.there (.there (.there (.there .here)))) | exact .there (.there (.there (.there (.there (.there .here))))) | exact .there (.there (.there (.there (.there (.there (.there .here))))))); (first | rfl | exact Arr.len _ | (simp; done)); rfl; (intro w_ hq_; (try simp only [List.set_cons_zero, List.set_cons_succ] at hq_); clear HH; have HH := hid hq_; clear hq_))
            | ((with_reducible apply wpL_storeC (t := 38)); rfl; rfl; (exact kS38); (exact HH.out); (first | exact .here | exact .there .here | exact .there (.there .here) | exact .there (.there (.there .here)) | exact .there (.there (.there (.there .here))) | exact .there (.there (.there (.there (.there .here)))) | exact .there (.there (.there (.there (.there (.there .here))))) | exact .there (.there (.there (.there (.there (.there (.there .here))))))); (first | rfl | exact Arr.len _ | (simp; done)); (first | rfl | (intro u_ hu_; simp only [List.mem_cons, List.not_mem_nil, or_false] at hu_; rcases hu_ with rfl | hu_; rfl) | exact byt_cell1 _ | exact cells_one _ | exact wrd_one _ | exact flat_cell1 _); (first | rfl | exact Arr.len _ | (simp; done)); rfl; (intro w_ hq_; (try simp only [List.set_cons_zero, List.set_cons_succ] at hq_); clear HH; have HH := hid hq_; clear hq_))
            | ((with_reducible apply wpL_move); rfl; rfl)
            | ((with_reducible apply wpL_assign); rfl; rfl)
            | ((with_reducible apply wpL_pick); rfl; rfl; rfl)
            | ((with_reducible apply wpL_not); rfl; rfl)
            | ((with_reducible apply wpL_cmp (b := true)); rfl; rfl; rfl; (first | rfl | assumption | (simp only [cmpB, decide_eq_true_eq, decide_eq_false_iff_not, beq_iff_eq, bne_iff_ne, ne_eq, beq_eq_false_iff_ne, bne_eq_false_iff_eq, gt_iff_lt, ge_iff_le]; omega) | (simp; omega)); rfl)
            | ((with_reducible apply wpL_cmp (b := false)); rfl; rfl; rfl; (first | rfl | assumption | (simp only [cmpB, decide_eq_true_eq, decide_eq_false_iff_not, beq_iff_eq, bne_iff_ne, ne_eq, beq_eq_false_iff_ne, bne_eq_false_iff_eq, gt_iff_lt, ge_iff_le]; omega) | (simp; omega)); rfl)
            | ((with_reducible apply wpL_cmp); rfl; rfl; rfl; rfl; rfl)
            | ((with_reducible apply wpL_arith); rfl; rfl; rfl; (exact IntWalk.i64_in _ (by (try simp only [arithI]); omega)); rfl)); (try simp only [arithI, Act.put, Act.eval, List.setIfInBounds_toArray, List.set_cons_succ, List.set_cons_zero, Array.getD_eq_getD_getElem?, List.getElem?_toArray, List.getElem?_cons_succ, List.getElem?_cons_zero, Option.getD_some])))
      refine bodyPost_ret (res3 rfl (by rfl) (by rfl) (by rfl)) rfl ?_
      exact RetPa.mk (by rw [HP.out]; exact parse_end hlt) rfl HH.out.below HH.out.sl0
end Go.Proofs.Ytohdkmgnnncpkaa
