/- The law of the round trip. Condition: a list of at most 2^47 bytes. -/
import Derived.Test.YtohdkmgnnncpkaaTX13
set_option linter.unusedSimpArgs false
set_option linter.unusedVariables false
namespace Go.Proofs.Ytohdkmgnnncpkaa
open Go.RowKit
attribute [local irreducible] wpQuiet wpList
/-- A slice of bools that is read. -/
abbrev Bools (w : World) (v : Value) (l : List Bool) : Prop := Sl w v 1 l.length (l.map Value.bool)
section
variable {P : Program} {ops : Array Oper} {rest : List Oper} {a : Act} {dst : Option Tmp} {ty : TypeId} {pos : String} {after : Array Edge} {guard : Option (Nat × Bool)} {w w0 : World} {Q : Exit → Act → World → Prop}
theorem ex_eqlB {ρ : Operand → Value} {t yt : TypeId} {b c : UInt8} {r : Bool} {x y : Operand} (hx : ρ x = byt b) (hy : ρ y = byt c) (hr : (b == c) = r) (w : World) :
    (execOp ρ { dst := dst, op := .binOp .eql t x y yt, type := ty, pos := pos, after := after, guard := guard }).run P w = .ok (.value (.bool r)) w := by
  subst hr
  refine ex_cmp (k := .u8) (p := b.toNat) (q := c.toNat) rfl hx hy ?_ w
  show ((b.toNat : Int) == (c.toNat : Int)) = _
  by_cases h : b = c
  · subst h; simp
  · have h1 : (b == c) = false := by simpa using h
    rw [h1]
    simp only [beq_eq_false_iff_ne, ne_eq, Int.natCast_inj]
    exact fun e => h (UInt8.toNat_inj.1 e)
theorem wpL_eqlB {t yt : TypeId} {b c : UInt8} {r : Bool} {x y : Operand} (hx : a.eval x = byt b) (hy : a.eval y = byt c) (hr : (b == c) = r)
    (hg : Region.wanted { dst := dst, op := .binOp .eql t x y yt, type := ty, pos := pos, after := after, guard := guard } (yielded ops a.tmps) = true)
    (h : wpList P ops Q rest (a.put dst (.bool r)) w) : wpList P ops Q ({ dst := dst, op := .binOp .eql t x y yt, type := ty, pos := pos, after := after, guard := guard } :: rest) a w :=
  wpList_ex hg (ex_eqlB (ρ := a.eval) hx hy hr w) h
end
def RtRel (w : World) (s : List UInt8) (bl : List Bool) (rows : List Row) (v n i : Value) (wr : World) : Prop :=
  ∃ (k c : Nat) (m : List UInt8), k ≤ s.length ∧ i = .int .i64 k ∧ n = .int .i64 c ∧ c ≤ bl.length ∧ v = str m ∧ Blend (s.take k) m ∧ m.length ≤ k + c ∧ Holds w [] [] rows wr
def RtIn (w : World) (s : List UInt8) (k : Nat) (bl : List Bool) (rows : List Row) (v n : Value) (wr : World) : Prop :=
  ∃ (c : Nat) (m : List UInt8), n = .int .i64 c ∧ c ≤ bl.length ∧ v = str m ∧ Blend (s.take k) m ∧ m.length ≤ k + c ∧ Holds w [] [] rows wr
theorem Blend.pad' {s : List UInt8} {k : Nat} {m : List UInt8} {b : UInt8} (hk : k < s.length) (h : Blend (s.take (k + 1)) m) (h32 : s.getD k 0 = 32) (hb : blankB b = true) : Blend (s.take (k + 1)) (m ++ [b]) := by
  rw [← List.take_append_getElem hk] at h ⊢
  rw [List.getD_eq_getElem?_getD, List.getElem?_eq_getElem hk, Option.getD_some] at h32
  rw [h32] at h ⊢
  exact .pad b h hb
theorem Blend.snoc' {s : List UInt8} {k : Nat} {m : List UInt8} {c : UInt8} (hk : k < s.length) (h : Blend (s.take k) m) (hc : s.getD k 0 = c) : Blend (s.take (k + 1)) (m ++ [c]) := by
  rw [← List.take_append_getElem hk]
  rw [List.getD_eq_getElem?_getD, List.getElem?_eq_getElem hk, Option.getD_some] at hc
  rw [hc]
  exact .snoc c h
theorem one_char {s : List UInt8} {k : Nat} {c : UInt8} (hk : k < s.length) (hc : s.getD k 0 = c) : (s.drop k).take (k + 1 - k) = [c] := by
  rw [List.getD_eq_getElem?_getD, List.getElem?_eq_getElem hk, Option.getD_some] at hc
  rw [show k + 1 - k = 1 by omega, List.drop_eq_getElem_cons hk, hc]; rfl
set_option maxRecDepth 100000 in
set_option maxHeartbeats 4000000 in
theorem law_round (w : World) (v v1 : Value) (l : List Id) (bl : List Bool) (hl : Ids w v l) (hbl : Bools w v1 bl) (hn : l.length * 32 ≤ 140737488355328) : Calls Try.prog 10 #[v, v1] w (RetB w true) := by
  obtain ⟨ao, cap, rfl, _⟩ := hl.shape
  obtain ⟨aob, capb, rfl, _⟩ := hbl.shape
  have HL := hid hl
  have HBL := hid hbl
  have HN := hid hn
  have hn63 : l.length ≤ 9223372036854775807 := by omega
  clear hl hn hbl
  have HH := hid (Holds.init w)
  by_cases h20 : 20 < l.length
  · go_enter Try.func10, Try.ntmps10
    go_wp2_with (first
      | ((first
          | ((with_reducible apply wpL_skip); rfl; skip)
          | (go_at_call 11; (first | ((have hcall_ := hid (known_any _)); (with_reducible refine hcall_.out.mono ?_); clear hcall_) | (with_reducible refine (known_any _).mono ?_)); rintro e_ w2_ ⟨rfl, hb_⟩; (have hq_ := HH.out.grow hb_); clear HH; have HH := hid hq_; clear hq_ hb_)
          | ((with_reducible apply wpL_nilCheck); rfl; rfl)
          | ((with_reducible apply wpL_load1 (t := 4) kO4 HH.out); rfl; (first | exact .here | exact .there .here | exact .there (.there .here) | exact .there (.there (.there .here)) | exact .there (.there (.there (.there .here))) | exact .there (.there (.there (.there (.there .here)))) | exact .there (.there (.there (.there (.there (.there .here))))) | exact .there (.there (.there (.there (.there (.there (.there .here))))))); rfl; rfl)
          | ((with_reducible apply wpL_len (t := 22) Try.underlying22); rfl; rfl)
          | ((with_reducible apply wpL_len (t := 61) Try.underlying61); rfl; rfl)
          | ((with_reducible apply wpL_move); rfl; rfl)
          | ((with_reducible apply wpL_assign); rfl; rfl)
          | ((with_reducible apply wpL_pick); rfl; rfl; rfl)
          | ((with_reducible apply wpL_not); rfl; rfl)
          | ((with_reducible apply wpL_cmp (b := true)); rfl; rfl; rfl; (first | rfl | assumption | (simp only [cmpB, decide_eq_true_eq, decide_eq_false_iff_not, beq_iff_eq, bne_iff_ne, ne_eq, beq_eq_false_iff_ne, bne_eq_false_iff_eq, gt_iff_lt, ge_iff_le]; omega) | (simp; omega)); rfl)
          | ((with_reducible apply wpL_cmp (b := false)); rfl; rfl; rfl; (first | rfl | assumption | (simp only [cmpB, decide_eq_true_eq, decide_eq_false_iff_not, beq_iff_eq, bne_iff_ne, ne_eq, beq_eq_false_iff_ne, bne_eq_false_iff_eq, gt_iff_lt, ge_iff_le]; omega) | (simp; omega)); rfl)
          | ((with_reducible apply wpL_cmp); rfl; rfl; rfl; rfl; rfl)
          | ((with_reducible apply wpL_arith); rfl; rfl; rfl; (exact IntWalk.i64_in _ (by (try simp only [arithI]); omega)); rfl)); (try simp only [arithI, Act.put, Act.eval, List.setIfInBounds_toArray, List.set_cons_succ, List.set_cons_zero, Array.getD_eq_getD_getElem?, List.getElem?_toArray, List.getElem?_cons_succ, List.getElem?_cons_zero, Option.getD_some])))
    go_ret
    exact RetB.mk rfl HH.out.below
  · by_cases h40 : 40 < bl.length
    · go_enter Try.func10, Try.ntmps10
      go_wp2_with (first
        | ((first
            | ((with_reducible apply wpL_skip); rfl; skip)
            | (go_at_call 11; (first | ((have hcall_ := hid (known_any _)); (with_reducible refine hcall_.out.mono ?_); clear hcall_) | (with_reducible refine (known_any _).mono ?_)); rintro e_ w2_ ⟨rfl, hb_⟩; (have hq_ := HH.out.grow hb_); clear HH; have HH := hid hq_; clear hq_ hb_)
            | ((with_reducible apply wpL_nilCheck); rfl; rfl)
            | ((with_reducible apply wpL_load1 (t := 4) kO4 HH.out); rfl; (first | exact .here | exact .there .here | exact .there (.there .here) | exact .there (.there (.there .here)) | exact .there (.there (.there (.there .here))) | exact .there (.there (.there (.there (.there .here)))) | exact .there (.there (.there (.there (.there (.there .here))))) | exact .there (.there (.there (.there (.there (.there (.there .here))))))); rfl; rfl)
            | ((with_reducible apply wpL_len (t := 22) Try.underlying22); rfl; rfl)
            | ((with_reducible apply wpL_len (t := 61) Try.underlying61); rfl; rfl)
            | ((with_reducible apply wpL_move); rfl; rfl)
            | ((with_reducible apply wpL_assign); rfl; rfl)
            | ((with_reducible apply wpL_pick); rfl; rfl; rfl)
            | ((with_reducible apply wpL_not); rfl; rfl)
            | ((with_reducible apply wpL_cmp (b := true)); rfl; rfl; rfl; (first | rfl | assumption | (simp only [cmpB, decide_eq_true_eq, decide_eq_false_iff_not, beq_iff_eq, bne_iff_ne, ne_eq, beq_eq_false_iff_ne, bne_eq_false_iff_eq, gt_iff_lt, ge_iff_le]; omega) | (simp; omega)); rfl)
            | ((with_reducible apply wpL_cmp (b := false)); rfl; rfl; rfl; (first | rfl | assumption | (simp only [cmpB, decide_eq_true_eq, decide_eq_false_iff_not, beq_iff_eq, bne_iff_ne, ne_eq, beq_eq_false_iff_ne, bne_eq_false_iff_eq, gt_iff_lt, ge_iff_le]; omega) | (simp; omega)); rfl)
            | ((with_reducible apply wpL_cmp); rfl; rfl; rfl; rfl; rfl)
            | ((with_reducible apply wpL_arith); rfl; rfl; rfl; (exact IntWalk.i64_in _ (by (try simp only [arithI]); omega)); rfl)); (try simp only [arithI, Act.put, Act.eval, List.setIfInBounds_toArray, List.set_cons_succ, List.set_cons_zero, Array.getD_eq_getD_getElem?, List.getElem?_toArray, List.getElem?_cons_succ, List.getElem?_cons_zero, Option.getD_some])))
      go_ret
      exact RetB.mk rfl HH.out.below
    · by_cases hce : checkE l = 0
      · obtain ⟨s, hs⟩ : ∃ s, printL l = s := ⟨_, rfl⟩
        have HPV := hid (show printV l = s by unfold printV; rw [if_pos hce, hs])
        have HCE := hid hce
        have hsl : s.length ≤ 1440 := by rw [← hs]; have := printL_len l; omega
        have HP1 := hid (show parseL s 0 [] = (l, 0, 0) by rw [← hs]; exact parse_print hce)
        have HP2 := hid (show ∀ m, Blend s m → parseL ([32] ++ m ++ [9]) 0 [] = (l, 0, 0) by rw [← hs]; exact fun m h => parse_blend hce h)
        have HLL := hid (beq_self_eq_true l)
        clear hs
        go_enter Try.func10, Try.ntmps10
        go_wp2_with (first
          | ((first
              | ((with_reducible apply wpL_skip); rfl; skip)
              | (go_at_call 11; (first | ((have hcall_ := hid (known_any _)); (with_reducible refine hcall_.out.mono ?_); clear hcall_) | (with_reducible refine (known_any _).mono ?_)); rintro e_ w2_ ⟨rfl, hb_⟩; (have hq_ := HH.out.grow hb_); clear HH; have HH := hid hq_; clear hq_ hb_)
              | (go_at_call 13; (with_reducible refine (own_any _ _ l (HH.out.sl HL.out) HN.out).mono ?_); rintro e w2 ⟨ao2, cap2, rfl, hr⟩; (have hq_ := HH.out.addRow hr.2 hr.1); clear HH; have HH := hid hq_; clear hq_ hr)
              | (go_at_call 27; (with_reducible refine (progPrint_any _ _ l HH.out.sl0 hn63).mono ?_); rw [HPV.out, HCE.out]; rintro e_ w2_ ⟨rfl, hb_⟩; (have hq_ := HH.out.grow hb_); clear HH; have HH := hid hq_; clear hq_ hb_)
              | ((with_reducible apply wpL_nilCheck); rfl; rfl)
              | ((with_reducible apply wpL_load1 (t := 4) kO4 HH.out); rfl; (first | exact .here | exact .there .here | exact .there (.there .here) | exact .there (.there (.there .here)) | exact .there (.there (.there (.there .here))) | exact .there (.there (.there (.there (.there .here)))) | exact .there (.there (.there (.there (.there (.there .here))))) | exact .there (.there (.there (.there (.there (.there (.there .here))))))); rfl; rfl)
              | ((with_reducible apply wpL_len (t := 22) Try.underlying22); rfl; rfl)
              | ((with_reducible apply wpL_len (t := 61) Try.underlying61); rfl; rfl)
              | ((with_reducible apply wpL_move); rfl; rfl)
              | ((with_reducible apply wpL_assign); rfl; rfl)
              | ((with_reducible apply wpL_pick); rfl; rfl; rfl)
              | ((with_reducible apply wpL_not); rfl; rfl)
              | ((with_reducible apply wpL_cmp (b := true)); rfl; rfl; rfl; (first | rfl | assumption | (simp only [cmpB, decide_eq_true_eq, decide_eq_false_iff_not, beq_iff_eq, bne_iff_ne, ne_eq, beq_eq_false_iff_ne, bne_eq_false_iff_eq, gt_iff_lt, ge_iff_le]; omega) | (simp; omega)); rfl)
              | ((with_reducible apply wpL_cmp (b := false)); rfl; rfl; rfl; (first | rfl | assumption | (simp only [cmpB, decide_eq_true_eq, decide_eq_false_iff_not, beq_iff_eq, bne_iff_ne, ne_eq, beq_eq_false_iff_ne, bne_eq_false_iff_eq, gt_iff_lt, ge_iff_le]; omega) | (simp; omega)); rfl)
              | ((with_reducible apply wpL_cmp); rfl; rfl; rfl; rfl; rfl)
              | ((with_reducible apply wpL_arith); rfl; rfl; rfl; (exact IntWalk.i64_in _ (by (try simp only [arithI]); omega)); rfl)); (try simp only [arithI, Act.put, Act.eval, List.setIfInBounds_toArray, List.set_cons_succ, List.set_cons_zero, Array.getD_eq_getD_getElem?, List.getElem?_toArray, List.getElem?_cons_succ, List.getElem?_cons_zero, Option.getD_some])))
        go_loopw [7, 8, 9] (RtRel w s bl [⟨.slice ao2 l.length cap2, 33, 32, l.length, flat l⟩]) (fun _ _ i _ => s.length - (intOf i).toNat)
        case atStart => exact ⟨0, 0, [], Nat.zero_le _, rfl, rfl, Nat.zero_le _, rfl, .nil, Nat.zero_le _, HH.out⟩
        case round =>
          obtain ⟨k, c, m, hk, rfl, rfl, hc, rfl, hbd, hml, hr⟩ := hrel
          clear HH
          have HH := hid hr
          have HBD := hid hbd
          clear hr hbd
          by_cases hlt : k < s.length
          · obtain ⟨ch, hch⟩ : ∃ ch, s.getD k 0 = ch := ⟨_, rfl⟩
            have HCH := hid hch
            have H1C := hid (one_char hlt hch)
            have HB1 := hid (HBD.out.snoc' hlt hch)
            have hml1 : (m ++ [ch]).length ≤ k + 1 + c := by simp; omega
            clear hch
            go_wp2_with (first
              | ((first
                  | ((with_reducible apply wpL_skip); rfl; skip)
                  | ((with_reducible apply wpL_sliceStr (l := s) (m := [ch]) (i := k) (j := k + 1) Try.underlying9); rfl; (exact .inr ⟨_, rfl⟩); (exact .inr ⟨_, rfl⟩); (exact Nat.le_succ _); (exact hlt); (exact H1C.out); rfl)
                  | ((with_reducible apply wpL_addStr (dst := some 58) (l := m) (m := [ch]) (r := m ++ [ch])); rfl; rfl; (exact (by simp; omega)); rfl; rfl)
                  | ((with_reducible apply wpL_nilCheck); rfl; rfl)
                  | ((with_reducible apply wpL_load1 (t := 4) kO4 HH.out); rfl; (first | exact .here | exact .there .here | exact .there (.there .here) | exact .there (.there (.there .here)) | exact .there (.there (.there (.there .here))) | exact .there (.there (.there (.there (.there .here)))) | exact .there (.there (.there (.there (.there (.there .here))))) | exact .there (.there (.there (.there (.there (.there (.there .here))))))); rfl; rfl)
                  | ((with_reducible apply wpL_len (t := 22) Try.underlying22); rfl; rfl)
                  | ((with_reducible apply wpL_len (t := 61) Try.underlying61); rfl; rfl)
                  | ((with_reducible apply wpL_move); rfl; rfl)
                  | ((with_reducible apply wpL_assign); rfl; rfl)
                  | ((with_reducible apply wpL_pick); rfl; rfl; rfl)
                  | ((with_reducible apply wpL_not); rfl; rfl)
                  | ((with_reducible apply wpL_cmp (b := true)); rfl; rfl; rfl; (first | rfl | assumption | (simp only [cmpB, decide_eq_true_eq, decide_eq_false_iff_not, beq_iff_eq, bne_iff_ne, ne_eq, beq_eq_false_iff_ne, bne_eq_false_iff_eq, gt_iff_lt, ge_iff_le]; omega) | (simp; omega)); rfl)
                  | ((with_reducible apply wpL_cmp (b := false)); rfl; rfl; rfl; (first | rfl | assumption | (simp only [cmpB, decide_eq_true_eq, decide_eq_false_iff_not, beq_iff_eq, bne_iff_ne, ne_eq, beq_eq_false_iff_ne, bne_eq_false_iff_eq, gt_iff_lt, ge_iff_le]; omega) | (simp; omega)); rfl)
                  | ((with_reducible apply wpL_cmp); rfl; rfl; rfl; rfl; rfl)
                  | ((with_reducible apply wpL_arith); rfl; rfl; rfl; (exact IntWalk.i64_in _ (by (try simp only [arithI]); omega)); rfl)); (try simp only [arithI, Act.put, Act.eval, List.setIfInBounds_toArray, List.set_cons_succ, List.set_cons_zero, Array.getD_eq_getD_getElem?, List.getElem?_toArray, List.getElem?_cons_succ, List.getElem?_cons_zero, Option.getD_some])))
            obtain ⟨m1, hm1⟩ : ∃ m1, m ++ [ch] = m1 := ⟨_, rfl⟩
            rw [hm1] at HB1 hml1 ⊢
            clear hm1
            go_loopw [7, 8] (RtIn w s (k + 1) bl [⟨.slice ao2 l.length cap2, 33, 32, l.length, flat l⟩]) (fun _ n _ => bl.length - (intOf n).toNat)
            case atStart => exact ⟨c, m1, rfl, hc, rfl, HB1.out, hml1, HH.out⟩
            case round =>
              obtain ⟨c2, m2, rfl, hc2, rfl, hbd2, hml2, hr⟩ := hrel
              clear HH HB1
              have HH := hid hr
              have HB2 := hid hbd2
              clear hr hbd2 hml1 hml
              by_cases h32 : ch = 32
              · have H32 := hid (show (ch == 32) = true by rw [h32]; rfl)
                have HC32 := hid (show s.getD k 0 = 32 by rw [HCH.out, h32])
                clear h32
                by_cases hcl : c2 < bl.length
                · obtain ⟨ad, cap', e⟩ := HBL.out.some (by omega)
                  cases e
                  cases hbb : bl[c2] with
                  | true =>
                    have HBB := hid (show (bl.map Value.bool)[c2]? = some (.bool true) by simp [hcl, hbb])
                    have HB3 := hid (HB2.out.pad' (b := 9) hlt HC32.out (by rfl))
                    clear hbb
                    by_cases h3 : (c2 + 1) % 3 = 0
                    · skip
                      go_wp2_with (first
                        | ((first
                            | ((with_reducible apply wpL_skip); rfl; skip)
                            | ((with_reducible apply wpL_indexStr (dst := some 61) (l := s) (m := k) (v := ch) Try.underlying9); rfl; rfl; rfl; (exact hlt); (exact HCH.out); rfl)
                            | ((with_reducible apply wpL_eqlB (dst := some 62) (b := ch) (c := 32) (r := true)); rfl; rfl; (exact H32.out); rfl)
                            | ((with_reducible apply wpL_idxB (dst := some 71) (j := c2) kE61); rfl; rfl; rfl; (exact hcl); rfl)
                            | ((with_reducible apply wpL_loadAt (dst := some 72) (v := .bool true) kO4); (have hc_ := (HH.out.sl HBL.out).cell c2 (.bool true) HBB.out; exact hc_); rfl; rfl)
                            | ((with_reducible apply wpL_addStr (dst := some 74) (l := m2) (m := [9]) (r := m2 ++ [9])); rfl; rfl; (exact (by simp; omega)); rfl; rfl)
                            | ((with_reducible apply wpL_addStr (dst := some 76) (l := m2) (m := [32]) (r := m2 ++ [32])); rfl; rfl; (exact (by simp; omega)); rfl; rfl)
                            | ((with_reducible apply wpL_nilCheck); rfl; rfl)
                            | ((with_reducible apply wpL_load1 (t := 4) kO4 HH.out); rfl; (first | exact .here | exact .there .here | exact .there (.there .here) | exact .there (.there (.there .here)) | exact .there (.there (.there (.there .here))) | exact .there (.there (.there (.there (.there .here)))) | exact .there (.there (.there (.there (.there (.there .here))))) | exact .there (.there (.there (.there (.there (.there (.there .here))))))); rfl; rfl)
                            | ((with_reducible apply wpL_len (t := 22) Try.underlying22); rfl; rfl)
                            | ((with_reducible apply wpL_len (t := 61) Try.underlying61); rfl; rfl)
                            | ((with_reducible apply wpL_move); rfl; rfl)
                            | ((with_reducible apply wpL_assign); rfl; rfl)
                            | ((with_reducible apply wpL_pick); rfl; rfl; rfl)
                            | ((with_reducible apply wpL_not); rfl; rfl)
                            | ((with_reducible apply wpL_cmp (b := true)); rfl; rfl; rfl; (first | rfl | assumption | (simp only [cmpB, decide_eq_true_eq, decide_eq_false_iff_not, beq_iff_eq, bne_iff_ne, ne_eq, beq_eq_false_iff_ne, bne_eq_false_iff_eq, gt_iff_lt, ge_iff_le]; omega) | (simp; omega)); rfl)
                            | ((with_reducible apply wpL_cmp (b := false)); rfl; rfl; rfl; (first | rfl | assumption | (simp only [cmpB, decide_eq_true_eq, decide_eq_false_iff_not, beq_iff_eq, bne_iff_ne, ne_eq, beq_eq_false_iff_ne, bne_eq_false_iff_eq, gt_iff_lt, ge_iff_le]; omega) | (simp; omega)); rfl)
                            | ((with_reducible apply wpL_cmp); rfl; rfl; rfl; rfl; rfl)
                            | ((with_reducible apply wpL_arith); rfl; rfl; rfl; (exact IntWalk.i64_in _ (by (try simp only [arithI]); omega)); rfl)); (try simp only [arithI, Act.put, Act.eval, List.setIfInBounds_toArray, List.set_cons_succ, List.set_cons_zero, Array.getD_eq_getD_getElem?, List.getElem?_toArray, List.getElem?_cons_succ, List.getElem?_cons_zero, Option.getD_some])))
                      go_roundw
                      case rel => exact ⟨k + 1, c2 + 1, m2 ++ [9], hlt, by go_num, by go_num, hcl, rfl, HB3.out, by simp; omega, HH.out⟩
                      case measure => simp [intOf]; omega
                    · skip
                      go_wp2_with (first
                        | ((first
                            | ((with_reducible apply wpL_skip); rfl; skip)
                            | ((with_reducible apply wpL_indexStr (dst := some 61) (l := s) (m := k) (v := ch) Try.underlying9); rfl; rfl; rfl; (exact hlt); (exact HCH.out); rfl)
                            | ((with_reducible apply wpL_eqlB (dst := some 62) (b := ch) (c := 32) (r := true)); rfl; rfl; (exact H32.out); rfl)
                            | ((with_reducible apply wpL_idxB (dst := some 71) (j := c2) kE61); rfl; rfl; rfl; (exact hcl); rfl)
                            | ((with_reducible apply wpL_loadAt (dst := some 72) (v := .bool true) kO4); (have hc_ := (HH.out.sl HBL.out).cell c2 (.bool true) HBB.out; exact hc_); rfl; rfl)
                            | ((with_reducible apply wpL_addStr (dst := some 74) (l := m2) (m := [9]) (r := m2 ++ [9])); rfl; rfl; (exact (by simp; omega)); rfl; rfl)
                            | ((with_reducible apply wpL_addStr (dst := some 76) (l := m2) (m := [32]) (r := m2 ++ [32])); rfl; rfl; (exact (by simp; omega)); rfl; rfl)
                            | ((with_reducible apply wpL_nilCheck); rfl; rfl)
                            | ((with_reducible apply wpL_load1 (t := 4) kO4 HH.out); rfl; (first | exact .here | exact .there .here | exact .there (.there .here) | exact .there (.there (.there .here)) | exact .there (.there (.there (.there .here))) | exact .there (.there (.there (.there (.there .here)))) | exact .there (.there (.there (.there (.there (.there .here))))) | exact .there (.there (.there (.there (.there (.there (.there .here))))))); rfl; rfl)
                            | ((with_reducible apply wpL_len (t := 22) Try.underlying22); rfl; rfl)
                            | ((with_reducible apply wpL_len (t := 61) Try.underlying61); rfl; rfl)
                            | ((with_reducible apply wpL_move); rfl; rfl)
                            | ((with_reducible apply wpL_assign); rfl; rfl)
                            | ((with_reducible apply wpL_pick); rfl; rfl; rfl)
                            | ((with_reducible apply wpL_not); rfl; rfl)
                            | ((with_reducible apply wpL_cmp (b := true)); rfl; rfl; rfl; (first | rfl | assumption | (simp only [cmpB, decide_eq_true_eq, decide_eq_false_iff_not, beq_iff_eq, bne_iff_ne, ne_eq, beq_eq_false_iff_ne, bne_eq_false_iff_eq, gt_iff_lt, ge_iff_le]; omega) | (simp; omega)); rfl)
                            | ((with_reducible apply wpL_cmp (b := false)); rfl; rfl; rfl; (first | rfl | assumption | (simp only [cmpB, decide_eq_true_eq, decide_eq_false_iff_not, beq_iff_eq, bne_iff_ne, ne_eq, beq_eq_false_iff_ne, bne_eq_false_iff_eq, gt_iff_lt, ge_iff_le]; omega) | (simp; omega)); rfl)
                            | ((with_reducible apply wpL_cmp); rfl; rfl; rfl; rfl; rfl)
                            | ((with_reducible apply wpL_arith); rfl; rfl; rfl; (exact IntWalk.i64_in _ (by (try simp only [arithI]); omega)); rfl)); (try simp only [arithI, Act.put, Act.eval, List.setIfInBounds_toArray, List.set_cons_succ, List.set_cons_zero, Array.getD_eq_getD_getElem?, List.getElem?_toArray, List.getElem?_cons_succ, List.getElem?_cons_zero, Option.getD_some])))
                      go_roundw
                      case rel => exact ⟨c2 + 1, m2 ++ [9], by go_num, hcl, rfl, HB3.out, by simp; omega, HH.out⟩
                      case measure => simp [intOf]; omega
                  | false =>
                    have HBB := hid (show (bl.map Value.bool)[c2]? = some (.bool false) by simp [hcl, hbb])
                    have HB3 := hid (HB2.out.pad' (b := 32) hlt HC32.out (by rfl))
                    clear hbb
                    by_cases h3 : (c2 + 1) % 3 = 0
                    · skip
                      go_wp2_with (first
                        | ((first
                            | ((with_reducible apply wpL_skip); rfl; skip)
                            | ((with_reducible apply wpL_indexStr (dst := some 61) (l := s) (m := k) (v := ch) Try.underlying9); rfl; rfl; rfl; (exact hlt); (exact HCH.out); rfl)
                            | ((with_reducible apply wpL_eqlB (dst := some 62) (b := ch) (c := 32) (r := true)); rfl; rfl; (exact H32.out); rfl)
                            | ((with_reducible apply wpL_idxB (dst := some 71) (j := c2) kE61); rfl; rfl; rfl; (exact hcl); rfl)
                            | ((with_reducible apply wpL_loadAt (dst := some 72) (v := .bool false) kO4); (have hc_ := (HH.out.sl HBL.out).cell c2 (.bool false) HBB.out; exact hc_); rfl; rfl)
                            | ((with_reducible apply wpL_addStr (dst := some 74) (l := m2) (m := [9]) (r := m2 ++ [9])); rfl; rfl; (exact (by simp; omega)); rfl; rfl)
                            | ((with_reducible apply wpL_addStr (dst := some 76) (l := m2) (m := [32]) (r := m2 ++ [32])); rfl; rfl; (exact (by simp; omega)); rfl; rfl)
                            | ((with_reducible apply wpL_nilCheck); rfl; rfl)
                            | ((with_reducible apply wpL_load1 (t := 4) kO4 HH.out); rfl; (first | exact .here | exact .there .here | exact .there (.there .here) | exact .there (.there (.there .here)) | exact .there (.there (.there (.there .here))) | exact .there (.there (.there (.there (.there .here)))) | exact .there (.there (.there (.there (.there (.there .here))))) | exact .there (.there (.there (.there (.there (.there (.there .here))))))); rfl; rfl)
                            | ((with_reducible apply wpL_len (t := 22) Try.underlying22); rfl; rfl)
                            | ((with_reducible apply wpL_len (t := 61) Try.underlying61); rfl; rfl)
                            | ((with_reducible apply wpL_move); rfl; rfl)
                            | ((with_reducible apply wpL_assign); rfl; rfl)
                            | ((with_reducible apply wpL_pick); rfl; rfl; rfl)
                            | ((with_reducible apply wpL_not); rfl; rfl)
                            | ((with_reducible apply wpL_cmp (b := true)); rfl; rfl; rfl; (first | rfl | assumption | (simp only [cmpB, decide_eq_true_eq, decide_eq_false_iff_not, beq_iff_eq, bne_iff_ne, ne_eq, beq_eq_false_iff_ne, bne_eq_false_iff_eq, gt_iff_lt, ge_iff_le]; omega) | (simp; omega)); rfl)
                            | ((with_reducible apply wpL_cmp (b := false)); rfl; rfl; rfl; (first | rfl | assumption | (simp only [cmpB, decide_eq_true_eq, decide_eq_false_iff_not, beq_iff_eq, bne_iff_ne, ne_eq, beq_eq_false_iff_ne, bne_eq_false_iff_eq, gt_iff_lt, ge_iff_le]; omega) | (simp; omega)); rfl)
                            | ((with_reducible apply wpL_cmp); rfl; rfl; rfl; rfl; rfl)
                            | ((with_reducible apply wpL_arith); rfl; rfl; rfl; (exact IntWalk.i64_in _ (by (try simp only [arithI]); omega)); rfl)); (try simp only [arithI, Act.put, Act.eval, List.setIfInBounds_toArray, List.set_cons_succ, List.set_cons_zero, Array.getD_eq_getD_getElem?, List.getElem?_toArray, List.getElem?_cons_succ, List.getElem?_cons_zero, Option.getD_some])))
                      go_roundw
                      case rel => exact ⟨k + 1, c2 + 1, m2 ++ [32], hlt, by go_num, by go_num, hcl, rfl, HB3.out, by simp; omega, HH.out⟩
                      case measure => simp [intOf]; omega
                    · skip
                      go_wp2_with (first
                        | ((first
                            | ((with_reducible apply wpL_skip); rfl; skip)
                            | ((with_reducible apply wpL_indexStr (dst := some 61) (l := s) (m := k) (v := ch) Try.underlying9); rfl; rfl; rfl; (exact hlt); (exact HCH.out); rfl)
                            | ((with_reducible apply wpL_eqlB (dst := some 62) (b := ch) (c := 32) (r := true)); rfl; rfl; (exact H32.out); rfl)
                            | ((with_reducible apply wpL_idxB (dst := some 71) (j := c2) kE61); rfl; rfl; rfl; (exact hcl); rfl)
                            | ((with_reducible apply wpL_loadAt (dst := some 72) (v := .bool false) kO4); (have hc_ := (HH.out.sl HBL.out).cell c2 (.bool false) HBB.out; exact hc_); rfl; rfl)
                            | ((with_reducible apply wpL_addStr (dst := some 74) (l := m2) (m := [9]) (r := m2 ++ [9])); rfl; rfl; (exact (by simp; omega)); rfl; rfl)
                            | ((with_reducible apply wpL_addStr (dst := some 76) (l := m2) (m := [32]) (r := m2 ++ [32])); rfl; rfl; (exact (by simp; omega)); rfl; rfl)
                            | ((with_reducible apply wpL_nilCheck); rfl; rfl)
                            | ((with_reducible apply wpL_load1 (t := 4) kO4 HH.out); rfl; (first | exact .here | exact .there .here | exact .there (.there .here) | exact .there (.there (.there .here)) | exact .there (.there (.there (.there .here))) | exact .there (.there (.there (.there (.there .here)))) | exact .there (.there (.there (.there (.there (.there .here))))) | exact .there (.there (.there (.there (.there (.there (.there .here))))))); rfl; rfl)
                            | ((with_reducible apply wpL_len (t := 22) Try.underlying22); rfl; rfl)
                            | ((with_reducible apply wpL_len (t := 61) Try.underlying61); rfl; rfl)
                            | ((with_reducible apply wpL_move); rfl; rfl)
                            | ((with_reducible apply wpL_assign); rfl; rfl)
                            | ((with_reducible apply wpL_pick); rfl; rfl; rfl)
                            | ((with_reducible apply wpL_not); rfl; rfl)
                            | ((with_reducible apply wpL_cmp (b := true)); rfl; rfl; rfl; (first | rfl | assumption | (simp only [cmpB, decide_eq_true_eq, decide_eq_false_iff_not, beq_iff_eq, bne_iff_ne, ne_eq, beq_eq_false_iff_ne, bne_eq_false_iff_eq, gt_iff_lt, ge_iff_le]; omega) | (simp; omega)); rfl)
                            | ((with_reducible apply wpL_cmp (b := false)); rfl; rfl; rfl; (first | rfl | assumption | (simp only [cmpB, decide_eq_true_eq, decide_eq_false_iff_not, beq_iff_eq, bne_iff_ne, ne_eq, beq_eq_false_iff_ne, bne_eq_false_iff_eq, gt_iff_lt, ge_iff_le]; omega) | (simp; omega)); rfl)
                            | ((with_reducible apply wpL_cmp); rfl; rfl; rfl; rfl; rfl)
                            | ((with_reducible apply wpL_arith); rfl; rfl; rfl; (exact IntWalk.i64_in _ (by (try simp only [arithI]); omega)); rfl)); (try simp only [arithI, Act.put, Act.eval, List.setIfInBounds_toArray, List.set_cons_succ, List.set_cons_zero, Array.getD_eq_getD_getElem?, List.getElem?_toArray, List.getElem?_cons_succ, List.getElem?_cons_zero, Option.getD_some])))
                      go_roundw
                      case rel => exact ⟨c2 + 1, m2 ++ [32], by go_num, hcl, rfl, HB3.out, by simp; omega, HH.out⟩
                      case measure => simp [intOf]; omega
                · skip
                  go_wp2_with (first
                    | ((first
                        | ((with_reducible apply wpL_skip); rfl; skip)
                        | ((with_reducible apply wpL_indexStr (dst := some 61) (l := s) (m := k) (v := ch) Try.underlying9); rfl; rfl; rfl; (exact hlt); (exact HCH.out); rfl)
                        | ((with_reducible apply wpL_eqlB (dst := some 62) (b := ch) (c := 32) (r := true)); rfl; rfl; (exact H32.out); rfl)
                        | ((with_reducible apply wpL_nilCheck); rfl; rfl)
                        | ((with_reducible apply wpL_load1 (t := 4) kO4 HH.out); rfl; (first | exact .here | exact .there .here | exact .there (.there .here) | exact .there (.there (.there .here)) | exact .there (.there (.there (.there .here))) | exact .there (.there (.there (.there (.there .here)))) | exact .there (.there (.there (.there (.there (.there .here))))) | exact .there (.there (.there (.there (.there (.there (.there .here))))))); rfl; rfl)
                        | ((with_reducible apply wpL_len (t := 22) Try.underlying22); rfl; rfl)
                        | ((with_reducible apply wpL_len (t := 61) Try.underlying61); rfl; rfl)
                        | ((with_reducible apply wpL_move); rfl; rfl)
                        | ((with_reducible apply wpL_assign); rfl; rfl)
                        | ((with_reducible apply wpL_pick); rfl; rfl; rfl)
                        | ((with_reducible apply wpL_not); rfl; rfl)
                        | ((with_reducible apply wpL_cmp (b := true)); rfl; rfl; rfl; (first | rfl | assumption | (simp only [cmpB, decide_eq_true_eq, decide_eq_false_iff_not, beq_iff_eq, bne_iff_ne, ne_eq, beq_eq_false_iff_ne, bne_eq_false_iff_eq, gt_iff_lt, ge_iff_le]; omega) | (simp; omega)); rfl)
                        | ((with_reducible apply wpL_cmp (b := false)); rfl; rfl; rfl; (first | rfl | assumption | (simp only [cmpB, decide_eq_true_eq, decide_eq_false_iff_not, beq_iff_eq, bne_iff_ne, ne_eq, beq_eq_false_iff_ne, bne_eq_false_iff_eq, gt_iff_lt, ge_iff_le]; omega) | (simp; omega)); rfl)
                        | ((with_reducible apply wpL_cmp); rfl; rfl; rfl; rfl; rfl)
                        | ((with_reducible apply wpL_arith); rfl; rfl; rfl; (exact IntWalk.i64_in _ (by (try simp only [arithI]); omega)); rfl)); (try simp only [arithI, Act.put, Act.eval, List.setIfInBounds_toArray, List.set_cons_succ, List.set_cons_zero, Array.getD_eq_getD_getElem?, List.getElem?_toArray, List.getElem?_cons_succ, List.getElem?_cons_zero, Option.getD_some])))
                  go_roundw
                  case rel => exact ⟨k + 1, c2, m2, hlt, by go_num, rfl, hc2, rfl, HB2.out, hml2, HH.out⟩
                  case measure => simp [intOf]; omega
              · have H32 := hid (show (ch == 32) = false by simpa using h32)
                clear h32
                go_wp2_with (first
                  | ((first
                      | ((with_reducible apply wpL_skip); rfl; skip)
                      | ((with_reducible apply wpL_indexStr (dst := some 61) (l := s) (m := k) (v := ch) Try.underlying9); rfl; rfl; rfl; (exact hlt); (exact HCH.out); rfl)
                      | ((with_reducible apply wpL_eqlB (dst := some 62) (b := ch) (c := 32) (r := false)); rfl; rfl; (exact H32.out); rfl)
                      | ((with_reducible apply wpL_nilCheck); rfl; rfl)
                      | ((with_reducible apply wpL_load1 (t := 4) kO4 HH.out); rfl; (first | exact .here | exact .there .here | exact .there (.there .here) | exact .there (.there (.there .here)) | exact .there (.there (.there (.there .here))) | exact .there (.there (.there (.there (.there .here)))) | exact .there (.there (.there (.there (.there (.there .here))))) | exact .there (.there (.there (.there (.there (.there (.there .here))))))); rfl; rfl)
                      | ((with_reducible apply wpL_len (t := 22) Try.underlying22); rfl; rfl)
                      | ((with_reducible apply wpL_len (t := 61) Try.underlying61); rfl; rfl)
                      | ((with_reducible apply wpL_move); rfl; rfl)
                      | ((with_reducible apply wpL_assign); rfl; rfl)
                      | ((with_reducible apply wpL_pick); rfl; rfl; rfl)
                      | ((with_reducible apply wpL_not); rfl; rfl)
                      | ((with_reducible apply wpL_cmp (b := true)); rfl; rfl; rfl; (first | rfl | assumption | (simp only [cmpB, decide_eq_true_eq, decide_eq_false_iff_not, beq_iff_eq, bne_iff_ne, ne_eq, beq_eq_false_iff_ne, bne_eq_false_iff_eq, gt_iff_lt, ge_iff_le]; omega) | (simp; omega)); rfl)
                      | ((with_reducible apply wpL_cmp (b := false)); rfl; rfl; rfl; (first | rfl | assumption | (simp only [cmpB, decide_eq_true_eq, decide_eq_false_iff_not, beq_iff_eq, bne_iff_ne, ne_eq, beq_eq_false_iff_ne, bne_eq_false_iff_eq, gt_iff_lt, ge_iff_le]; omega) | (simp; omega)); rfl)
                      | ((with_reducible apply wpL_cmp); rfl; rfl; rfl; rfl; rfl)
                      | ((with_reducible apply wpL_arith); rfl; rfl; rfl; (exact IntWalk.i64_in _ (by (try simp only [arithI]); omega)); rfl)); (try simp only [arithI, Act.put, Act.eval, List.setIfInBounds_toArray, List.set_cons_succ, List.set_cons_zero, Array.getD_eq_getD_getElem?, List.getElem?_toArray, List.getElem?_cons_succ, List.getElem?_cons_zero, Option.getD_some])))
                go_roundw
                case rel => exact ⟨k + 1, c2, m2, hlt, by go_num, rfl, hc2, rfl, HB2.out, hml2, HH.out⟩
                case measure => simp [intOf]; omega
          · obtain rfl : k = s.length := by omega
            have HBF := hid (show Blend s m by have := HBD.out; rwa [List.take_length] at this)
            obtain ⟨t1, ht1⟩ : ∃ t1, [32] ++ m = t1 := ⟨_, rfl⟩
            obtain ⟨t2, ht2⟩ : ∃ t2, t1 ++ [9] = t2 := ⟨_, rfl⟩
            have HP3 := hid (show parseL t2 0 [] = (l, 0, 0) by rw [← ht2, ← ht1]; exact HP2.out m HBF.out)
            have hl1 : t1.length ≤ 1490 := by rw [← ht1]; simp; omega
            have hl2 : t2.length ≤ 1500 := by rw [← ht2]; simp; omega
            have HT1 := hid ht1
            have HT2 := hid ht2
            clear ht1 ht2
            clear HBD
            go_wp2_with (first
              | ((first
                  | ((with_reducible apply wpL_skip); rfl; skip)
                  | (go_at_call 25; (with_reducible refine (progParse_any _ s (by omega)).mono ?_); rw [HP1.out]; intro e_ w2_ hq0_; obtain ⟨ao3, cap3, rfl, hb_, hl1_⟩ := hq0_.get; clear hq0_; (have hq_ := HH.out.grow hb_); clear HH; have HH := hid hq_; have HL1 := hid hl1_; clear hq_ hb_ hl1_)
                  | ((with_reducible apply wpL_addStr (dst := some 90) (l := [32]) (m := m) (r := t1)); rfl; rfl; (exact (by simp; omega)); (exact HT1.out); rfl)
                  | ((with_reducible apply wpL_addStr (dst := some 91) (l := t1) (m := [9]) (r := t2)); rfl; rfl; (exact (by simp; omega)); (exact HT2.out); rfl)
                  | (go_at_call 25; (with_reducible refine (progParse_any _ t2 (by omega)).mono ?_); rw [HP3.out]; intro e_ w2_ hq0_; obtain ⟨ao4, cap4, rfl, hb_, hl2_⟩ := hq0_.get; clear hq0_; (have hq_ := HH.out.grow hb_); (have hk_ := HL1.out.below hb_); clear HH HL1; have HH := hid hq_; have HL1 := hid hk_; have HL2 := hid hl2_; clear hq_ hb_ hl2_ hk_)
                  | (go_at_call 15; (with_reducible refine (same_any _ (.slice ao3 l.length cap3) _ l l HL1.out (HH.out.sl HL.out) hn63).mono ?_); rw [HLL.out]; rintro e_ w2_ ⟨rfl, hb_⟩; (have hq_ := HH.out.grow hb_); (have hk_ := HL2.out.below hb_); clear HH HL2; have HH := hid hq_; have HL2 := hid hk_; clear hq_ hb_ hk_)
                  | (go_at_call 15; (with_reducible refine (same_any _ (.slice ao4 l.length cap4) _ l l HL2.out (HH.out.sl HL.out) hn63).mono ?_); rw [HLL.out]; rintro e_ w2_ ⟨rfl, hb_⟩; (have hq_ := HH.out.grow hb_); clear HH; have HH := hid hq_; clear hq_ hb_)
                  | ((with_reducible apply wpL_nilCheck); rfl; rfl)
                  | ((with_reducible apply wpL_load1 (t := 4) kO4 HH.out); rfl; (first | exact .here | exact .there .here | exact .there (.there .here) | exact .there (.there (.there .here)) | exact .there (.there (.there (.there .here))) | exact .there (.there (.there (.there (.there .here)))) | exact .there (.there (.there (.there (.there (.there .here))))) | exact .there (.there (.there (.there (.there (.there (.there .here))))))); rfl; rfl)
                  | ((with_reducible apply wpL_len (t := 22) Try.underlying22); rfl; rfl)
                  | ((with_reducible apply wpL_len (t := 61) Try.underlying61); rfl; rfl)
                  | ((with_reducible apply wpL_move); rfl; rfl)
                  | ((with_reducible apply wpL_assign); rfl; rfl)
                  | ((with_reducible apply wpL_pick); rfl; rfl; rfl)
                  | ((with_reducible apply wpL_not); rfl; rfl)
                  | ((with_reducible apply wpL_cmp (b := true)); rfl; rfl; rfl; (first | rfl | assumption | (simp only [cmpB, decide_eq_true_eq, decide_eq_false_iff_not, beq_iff_eq, bne_iff_ne, ne_eq, beq_eq_false_iff_ne, bne_eq_false_iff_eq, gt_iff_lt, ge_iff_le]; omega) | (simp; omega)); rfl)
                  | ((with_reducible apply wpL_cmp (b := false)); rfl; rfl; rfl; (first | rfl | assumption | (simp only [cmpB, decide_eq_true_eq, decide_eq_false_iff_not, beq_iff_eq, bne_iff_ne, ne_eq, beq_eq_false_iff_ne, bne_eq_false_iff_eq, gt_iff_lt, ge_iff_le]; omega) | (simp; omega)); rfl)
                  | ((with_reducible apply wpL_cmp); rfl; rfl; rfl; rfl; rfl)
                  | ((with_reducible apply wpL_arith); rfl; rfl; rfl; (exact IntWalk.i64_in _ (by (try simp only [arithI]); omega)); rfl)); (try simp only [arithI, Act.put, Act.eval, List.setIfInBounds_toArray, List.set_cons_succ, List.set_cons_zero, Array.getD_eq_getD_getElem?, List.getElem?_toArray, List.getElem?_cons_succ, List.getElem?_cons_zero, Option.getD_some])))
            go_ret
            exact RetB.mk rfl HH.out.below
      · have HPV := hid (show printV l = [] by unfold printV; rw [if_neg hce])
        obtain ⟨ce, hce2⟩ : ∃ ce, checkE l = ce := ⟨_, rfl⟩
        have HCE := hid hce2
        have hcb : (ce != 0) = true := by rw [← hce2]; simpa using hce
        have hcc : (ce == ce) = true := beq_self_eq_true _
        clear hce hce2
        go_enter Try.func10, Try.ntmps10
        go_wp2_with (first
          | ((first
              | ((with_reducible apply wpL_skip); rfl; skip)
              | (go_at_call 11; (first | ((have hcall_ := hid (known_any _)); (with_reducible refine hcall_.out.mono ?_); clear hcall_) | (with_reducible refine (known_any _).mono ?_)); rintro e_ w2_ ⟨rfl, hb_⟩; (have hq_ := HH.out.grow hb_); clear HH; have HH := hid hq_; clear hq_ hb_)
              | (go_at_call 13; (with_reducible refine (own_any _ _ l (HH.out.sl HL.out) HN.out).mono ?_); rintro e w2 ⟨ao2, cap2, rfl, hr⟩; (have hq_ := HH.out.addRow hr.2 hr.1); clear HH; have HH := hid hq_; clear hq_ hr)
              | (go_at_call 27; (with_reducible refine (progPrint_any _ _ l HH.out.sl0 hn63).mono ?_); rw [HPV.out, HCE.out]; rintro e_ w2_ ⟨rfl, hb_⟩; (have hq_ := HH.out.grow hb_); clear HH; have HH := hid hq_; clear hq_ hb_)
              | (go_at_call 20; (with_reducible refine (check_any _ _ l HH.out.sl0 hn63).mono ?_); rw [HCE.out]; rintro e_ w2_ ⟨rfl, hb_⟩; (have hq_ := HH.out.grow hb_); clear HH; have HH := hid hq_; clear hq_ hb_)
              | ((with_reducible apply wpL_eqlStr (b := true) Try.underlying9); rfl; rfl; (exact beq_self_eq_true _); rfl)
              | ((with_reducible apply wpL_nilCheck); rfl; rfl)
              | ((with_reducible apply wpL_load1 (t := 4) kO4 HH.out); rfl; (first | exact .here | exact .there .here | exact .there (.there .here) | exact .there (.there (.there .here)) | exact .there (.there (.there (.there .here))) | exact .there (.there (.there (.there (.there .here)))) | exact .there (.there (.there (.there (.there (.there .here))))) | exact .there (.there (.there (.there (.there (.there (.there .here))))))); rfl; rfl)
              | ((with_reducible apply wpL_len (t := 22) Try.underlying22); rfl; rfl)
              | ((with_reducible apply wpL_len (t := 61) Try.underlying61); rfl; rfl)
              | ((with_reducible apply wpL_move); rfl; rfl)
              | ((with_reducible apply wpL_assign); rfl; rfl)
              | ((with_reducible apply wpL_pick); rfl; rfl; rfl)
              | ((with_reducible apply wpL_not); rfl; rfl)
              | ((with_reducible apply wpL_cmp (b := true)); rfl; rfl; rfl; (first | rfl | assumption | (simp only [cmpB, decide_eq_true_eq, decide_eq_false_iff_not, beq_iff_eq, bne_iff_ne, ne_eq, beq_eq_false_iff_ne, bne_eq_false_iff_eq, gt_iff_lt, ge_iff_le]; omega) | (simp; omega)); rfl)
              | ((with_reducible apply wpL_cmp (b := false)); rfl; rfl; rfl; (first | rfl | assumption | (simp only [cmpB, decide_eq_true_eq, decide_eq_false_iff_not, beq_iff_eq, bne_iff_ne, ne_eq, beq_eq_false_iff_ne, bne_eq_false_iff_eq, gt_iff_lt, ge_iff_le]; omega) | (simp; omega)); rfl)
              | ((with_reducible apply wpL_cmp); rfl; rfl; rfl; rfl; rfl)
              | ((with_reducible apply wpL_arith); rfl; rfl; rfl; (exact IntWalk.i64_in _ (by (try simp only [arithI]); omega)); rfl)); (try simp only [arithI, Act.put, Act.eval, List.setIfInBounds_toArray, List.set_cons_succ, List.set_cons_zero, Array.getD_eq_getD_getElem?, List.getElem?_toArray, List.getElem?_cons_succ, List.getElem?_cons_zero, Option.getD_some])))
        go_ret
        exact RetB.mk rfl HH.out.below
end Go.Proofs.Ytohdkmgnnncpkaa
