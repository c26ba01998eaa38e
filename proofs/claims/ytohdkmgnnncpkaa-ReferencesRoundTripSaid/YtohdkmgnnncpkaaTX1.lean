/- Strings joined; the text of an identity: Print of msgid, Text of the reference. No condition. -/
import Derived.Test.YtohdkmgnnncpkaaRH11
import Derived.Test.YtohdkmgnnncpkaaC10
set_option linter.unusedSimpArgs false
set_option linter.unusedVariables false
namespace Go.Proofs.Ytohdkmgnnncpkaa
open Go.RowKit
section
variable {P : Program} {ops : Array Oper} {rest : List Oper} {a : Act} {ρ : Operand → Value} {dst : Option Tmp} {ty : TypeId} {pos : String} {after : Array Edge} {guard : Option (Nat × Bool)} {w w0 : World} {S : List Nat} {bs : List (Nat × Obj)} {rows : List Row} {Q : Exit → Act → World → Prop} {C : World → Prop} {K : Act → Prop}
theorem ex_addStr {t yt : TypeId} {l m r : List UInt8} {x y : Operand} (hx : ρ x = str l) (hy : ρ y = str m) (hb : l.length + m.length ≤ 4611686018427387904) (hr : l ++ m = r) (w : World) :
    (execOp ρ { dst := dst, op := .binOp .add t x y yt, type := ty, pos := pos, after := after, guard := guard }).run P w = .ok (.value (str r)) w := by
  subst hr
  have he : ∀ u v, eqGuard .add t x y u v = pure () := fun _ _ => rfl
  have hs : ∀ l : List UInt8, (⟨l.toArray⟩ : ByteArray).size = l.length := fun l => by simp [ByteArray.size]
  have hr : (binOp .add t (str l) (str m)).run P w = .ok (str (l ++ m)) w := by
    show (Op.stringOp .add ⟨l.toArray⟩ ⟨m.toArray⟩).run P w = _
    have hc : ¬ (((⟨l.toArray⟩ : ByteArray).size + (⟨m.toArray⟩ : ByteArray).size : Nat) : Int) > IntKind.i64.max := by
      rw [hs, hs]
      have : IntKind.i64.max = 9223372036854775807 := rfl
      omega
    have ha : (⟨l.toArray⟩ : ByteArray) ++ ⟨m.toArray⟩ = ⟨(l ++ m).toArray⟩ := by
      apply ByteArray.ext
      simp
    simp only [Op.stringOp, hc, if_false, Sem.run_pure, ha]
  simp only [execOp, hx, hy, Sem.run_bind, he, Sem.run_pure, Result.andThen_ok, hr]
theorem wpL_addStr {t yt : TypeId} {l m r : List UInt8} {x y : Operand} (hx : a.eval x = str l) (hy : a.eval y = str m) (hb : l.length + m.length ≤ 4611686018427387904) (hr : l ++ m = r)
    (hg : Region.wanted { dst := dst, op := .binOp .add t x y yt, type := ty, pos := pos, after := after, guard := guard } (yielded ops a.tmps) = true)
    (h : wpList P ops Q rest (a.put dst (str r)) w) : wpList P ops Q ({ dst := dst, op := .binOp .add t x y yt, type := ty, pos := pos, after := after, guard := guard } :: rest) a w :=
  wpList_ex hg (ex_addStr (ρ := a.eval) hx hy hb hr w) h
theorem wpQ_addStr {t yt : TypeId} {l m r : List UInt8} {x y : Operand} (hx : a.eval x = str l) (hy : a.eval y = str m) (hb : l.length + m.length ≤ 4611686018427387904) (hr : l ++ m = r)
    (hg : Region.wanted { dst := dst, op := .binOp .add t x y yt, type := ty, pos := pos, after := after, guard := guard } (yielded ops a.tmps) = true)
    (h : wpQuiet P ops C K rest (a.put dst (str r))) : wpQuiet P ops C K ({ dst := dst, op := .binOp .add t x y yt, type := ty, pos := pos, after := after, guard := guard } :: rest) a :=
  wpQuiet_ex hg (fun w _ => ex_addStr (ρ := a.eval) hx hy hb hr w) h
theorem wpQ_addB {t yt : TypeId} {x y : Operand} {p q r : Int} (hx : a.eval x = .int .u8 p) (hy : a.eval y = .int .u8 q) (hr : p + q = r) (hb : 0 ≤ r ∧ r ≤ 255)
    (hg : Region.wanted { dst := dst, op := .binOp .add t x y yt, type := ty, pos := pos, after := after, guard := guard } (yielded ops a.tmps) = true)
    (h : wpQuiet P ops C K rest (a.put dst (.int .u8 r))) : wpQuiet P ops C K ({ dst := dst, op := .binOp .add t x y yt, type := ty, pos := pos, after := after, guard := guard } :: rest) a := by
  subst hr
  refine wpQuiet_ex hg (fun w _ => ?_) h
  have he : ∀ u v, eqGuard .add t x y u v = pure () := fun _ _ => rfl
  have hr : (binOp .add t (.int .u8 p) (.int .u8 q)).run P w = .ok (.int .u8 (p + q)) w := by
    show (Op.intArith .add .u8 p q).run P w = _
    simp only [Op.intArith, Sem.run_pure]
    rw [IntWalk.u8_in _ hb]
  simp only [execOp, hx, hy, Sem.run_bind, he, Sem.run_pure, Result.andThen_ok, hr]
end
/-- The text of an identity. -/
def textL (d : Id) : List UInt8 := [60] ++ hexB d.1 ++ [64, 104, 97, 115, 104, 62]
theorem textL_len (d : Id) : (textL d).length = 71 := by simp only [textL, List.length_append, hexB_len, d.2]; rfl
set_option maxRecDepth 100000 in
set_option maxHeartbeats 2000000 in
theorem print_any (w : World) (d : Id) : Calls Try.prog 42 #[d.val] w (RetS w (textL d)) := by
  have HH := hid (Holds.init w)
  have hd := d.2
  obtain ⟨s, hs⟩ : ∃ s, hexB d.1 = s := ⟨_, rfl⟩
  have hsl : s.length = 64 := by rw [← hs, hexB_len, hd]
  have HT := hid (show ([60] ++ s) ++ [64, 104, 97, 115, 104, 62] = textL d by unfold textL; rw [hs])
  have HS := hid hs
  have HSL := hid hsl
  clear hd hs hsl
  go_enter Try.func42, Try.ntmps42
  go_wp2_with (first
    | ((first
        | ((with_reducible apply wpL_skip); rfl; skip)
        | (go_at_call 49; (with_reducible refine (string_any _ d).mono ?_); rw [HS.out]; rintro e_ w2_ ⟨rfl, hb_⟩; (have hq_ := HH.out.grow hb_); clear HH; have HH := hid hq_; clear hq_ hb_)
        | ((with_reducible apply wpL_addStr (dst := some 5) (l := [60]) (m := s) (r := [60] ++ s)); rfl; rfl; (rw [HSL.out]; exact (by simp)); rfl; rfl)
        | ((with_reducible apply wpL_addStr (dst := some 6) (l := [60] ++ s) (m := [64, 104, 97, 115, 104, 62]) (r := textL d)); rfl; rfl; (exact (by simp [HSL.out])); (exact HT.out); rfl)
        | ((with_reducible apply wpL_nilCheck); rfl; rfl)
        | ((with_reducible apply wpL_loadArr (t := 33) kA33 HH.out); rfl; (first | exact .here | exact .there .here | exact .there (.there .here) | exact .there (.there (.there .here)) | exact .there (.there (.there (.there .here))) | exact .there (.there (.there (.there (.there .here)))) | exact .there (.there (.there (.there (.there (.there .here))))) | exact .there (.there (.there (.there (.there (.there (.there .here))))))); rfl)
        | ((with_reducible apply wpL_loadC (t := 33) kA33 HH.out); rfl; (first | exact .here | exact .there .here | exact .there (.there .here) | exact .there (.there (.there .here)) | exact .there (.there (.there (.there .here))) | exact .there (.there (.there (.there (.there .here)))) | exact .there (.there (.there (.there (.there (.there .here))))) | exact .there (.there (.there (.there (.there (.there (.there .here))))))); (first | rfl | exact Arr.len _ | (simp; done)); rfl)
        | ((with_reducible apply wpL_boxArr (dst := some 1)); rfl; (exact HH.out); rfl; (intro g1_ w_ hq_; (try simp only [List.set_cons_zero, List.set_cons_succ] at hq_); clear HH; have HH := hid hq_; clear hq_))
        | ((with_reducible apply wpL_move); rfl; rfl)
        | ((with_reducible apply wpL_assign); rfl; rfl)
        | ((with_reducible apply wpL_pick); rfl; rfl; rfl)
        | ((with_reducible apply wpL_not); rfl; rfl)
        | ((with_reducible apply wpL_cmp (b := true)); rfl; rfl; rfl; (first | rfl | assumption | (simp only [cmpB, decide_eq_true_eq, decide_eq_false_iff_not, beq_iff_eq, bne_iff_ne, ne_eq, beq_eq_false_iff_ne, bne_eq_false_iff_eq, gt_iff_lt, ge_iff_le]; omega) | (simp; omega)); rfl)
        | ((with_reducible apply wpL_cmp (b := false)); rfl; rfl; rfl; (first | rfl | assumption | (simp only [cmpB, decide_eq_true_eq, decide_eq_false_iff_not, beq_iff_eq, bne_iff_ne, ne_eq, beq_eq_false_iff_ne, bne_eq_false_iff_eq, gt_iff_lt, ge_iff_le]; omega) | (simp; omega)); rfl)
        | ((with_reducible apply wpL_cmp); rfl; rfl; rfl; rfl; rfl)
        | ((with_reducible apply wpL_arith); rfl; rfl; rfl; (exact IntWalk.i64_in _ (by (try simp only [arithI]); omega)); rfl)); (try simp only [arithI, Act.put, Act.eval, List.setIfInBounds_toArray, List.set_cons_succ, List.set_cons_zero, Array.getD_eq_getD_getElem?, List.getElem?_toArray, List.getElem?_cons_succ, List.getElem?_cons_zero, Option.getD_some])))
  go_ret
  exact ⟨rfl, HH.out.below⟩
def TextRel (w : World) (d : Id) (g : Nat) (s i : Value) (wr : World) : Prop :=
  ∃ k : Nat, k ≤ 32 ∧ i = .int .i64 k ∧ s = str ([60] ++ hexB (d.1.take k)) ∧ Holds w [] [(g, objC d.cells 38)] [] wr
theorem text_step (d : Id) {k : Nat} (h : k < 32) : (([60] ++ hexB (d.1.take k)) ++ [hexC ((d.1.getD k 0).toNat / 16)]) ++ [hexC ((d.1.getD k 0).toNat % 16)] = [60] ++ hexB (d.1.take (k + 1)) := by
  have h' : k < d.1.length := by rw [d.2]; exact h
  rw [hexB_snoc h']
  have : d.1.getD k 0 = d.1[k] := by simp [h']
  rw [this]
  simp only [List.append_assoc]
theorem hexT_sub {m : Nat} (h : m < 16) : (hexT.drop m).take (m + 1 - m) = [hexC m] := by
  have : ∀ m : Fin 16, (hexT.drop m.1).take (m.1 + 1 - m.1) = [hexC m.1] := by decide +kernel
  exact this ⟨m, h⟩
set_option maxRecDepth 100000 in
set_option maxHeartbeats 2000000 in
theorem text_any (w : World) (d : Id) : Calls Try.prog 44 #[d.val] w (RetS w (textL d)) := by
  have HH := hid (Holds.init w)
  have HD := hid d.2
  go_enter Try.func44, Try.ntmps44
  go_wp2_with (first
    | ((first
        | ((with_reducible apply wpL_skip); rfl; skip)
        | ((with_reducible apply wpL_nilCheck); rfl; rfl)
        | ((with_reducible apply wpL_load1 (t := 5) kO5 HH.out); rfl; (first | exact .here | exact .there .here | exact .there (.there .here) | exact .there (.there (.there .here)) | exact .there (.there (.there (.there .here))) | exact .there (.there (.there (.there (.there .here)))) | exact .there (.there (.there (.there (.there (.there .here))))) | exact .there (.there (.there (.there (.there (.there (.there .here))))))); rfl; rfl)
        | ((with_reducible apply wpL_boxArr (dst := some 1)); rfl; (exact HH.out); rfl; (intro g1_ w_ hq_; (try simp only [List.set_cons_zero, List.set_cons_succ] at hq_); clear HH; have HH := hid hq_; clear hq_))
        | ((with_reducible apply wpL_move); rfl; rfl)
        | ((with_reducible apply wpL_assign); rfl; rfl)
        | ((with_reducible apply wpL_pick); rfl; rfl; rfl)
        | ((with_reducible apply wpL_not); rfl; rfl)
        | ((with_reducible apply wpL_cmp (b := true)); rfl; rfl; rfl; (first | rfl | assumption | (simp only [cmpB, decide_eq_true_eq, decide_eq_false_iff_not, beq_iff_eq, bne_iff_ne, ne_eq, beq_eq_false_iff_ne, bne_eq_false_iff_eq, gt_iff_lt, ge_iff_le]; omega) | (simp; omega)); rfl)
        | ((with_reducible apply wpL_cmp (b := false)); rfl; rfl; rfl; (first | rfl | assumption | (simp only [cmpB, decide_eq_true_eq, decide_eq_false_iff_not, beq_iff_eq, bne_iff_ne, ne_eq, beq_eq_false_iff_ne, bne_eq_false_iff_eq, gt_iff_lt, ge_iff_le]; omega) | (simp; omega)); rfl)
        | ((with_reducible apply wpL_cmp); rfl; rfl; rfl; rfl; rfl)
        | ((with_reducible apply wpL_arith); rfl; rfl; rfl; (exact IntWalk.i64_in _ (by (try simp only [arithI]); omega)); rfl)); (try simp only [arithI, Act.put, Act.eval, List.setIfInBounds_toArray, List.set_cons_succ, List.set_cons_zero, Array.getD_eq_getD_getElem?, List.getElem?_toArray, List.getElem?_cons_succ, List.getElem?_cons_zero, Option.getD_some])))
  go_loopw [4, 5] (TextRel w d g1_) (fun _ i _ => 32 - (intOf i).toNat)
  case atStart => exact ⟨0, Nat.zero_le _, rfl, rfl, HH.out⟩
  case round =>
    obtain ⟨k, hk, rfl, rfl, hr⟩ := hrel
    clear HH
    have HH := hid hr
    clear hr
    have hlen : ([60] ++ hexB (d.1.take k)).length = 1 + 2 * k := by
      have := HD.out
      rw [List.length_append, hexB_len, List.length_take]; simp; omega
    by_cases hlt : k < 32
    · have HST := hid (text_step d hlt)
      obtain ⟨b, hb⟩ : ∃ b, d.1.getD k 0 = b := ⟨_, rfl⟩
      rw [hb] at HST
      have hbl := b.toNat_lt
      have HB := hid hb
      have HCB := hid (show d.cells[0 + k]? = some (byt b) from by rw [← hb, Nat.zero_add]; simp [Arr.cells, show k < d.1.length by rw [HD.out]; exact hlt])
      have HL := hid hlen
      obtain ⟨s, hs⟩ : ∃ s, [60] ++ hexB (d.1.take k) = s := ⟨_, rfl⟩
      rw [hs] at HST HL
      have hsl : s.length = 1 + 2 * k := HL.out
      rw [hs]
      clear hb hs hlen
      go_wp2_with (first
        | ((first
            | ((with_reducible apply wpL_skip); rfl; skip)
            | ((with_reducible apply wpL_nilCheck); rfl; rfl)
            | ((with_reducible apply wpL_load1 (t := 5) kO5 HH.out); rfl; (first | exact .here | exact .there .here | exact .there (.there .here) | exact .there (.there (.there .here)) | exact .there (.there (.there (.there .here))) | exact .there (.there (.there (.there (.there .here)))) | exact .there (.there (.there (.there (.there (.there .here))))) | exact .there (.there (.there (.there (.there (.there (.there .here))))))); rfl; rfl)
            | ((with_reducible apply wpL_boxArr (dst := some 1)); rfl; (exact HH.out); rfl; (intro g1_ w_ hq_; (try simp only [List.set_cons_zero, List.set_cons_succ] at hq_); clear HH; have HH := hid hq_; clear hq_))
            | ((with_reducible apply wpL_move); rfl; rfl)
            | ((with_reducible apply wpL_assign); rfl; rfl)
            | ((with_reducible apply wpL_pick); rfl; rfl; rfl)
            | ((with_reducible apply wpL_not); rfl; rfl)
            | ((with_reducible apply wpL_cmp (b := true)); rfl; rfl; rfl; (first | rfl | assumption | (simp only [cmpB, decide_eq_true_eq, decide_eq_false_iff_not, beq_iff_eq, bne_iff_ne, ne_eq, beq_eq_false_iff_ne, bne_eq_false_iff_eq, gt_iff_lt, ge_iff_le]; omega) | (simp; omega)); rfl)
            | ((with_reducible apply wpL_cmp (b := false)); rfl; rfl; rfl; (first | rfl | assumption | (simp only [cmpB, decide_eq_true_eq, decide_eq_false_iff_not, beq_iff_eq, bne_iff_ne, ne_eq, beq_eq_false_iff_ne, bne_eq_false_iff_eq, gt_iff_lt, ge_iff_le]; omega) | (simp; omega)); rfl)
            | ((with_reducible apply wpL_cmp); rfl; rfl; rfl; rfl; rfl)
            | ((with_reducible apply wpL_arith); rfl; rfl; rfl; (exact IntWalk.i64_in _ (by (try simp only [arithI]); omega)); rfl)); (try simp only [arithI, Act.put, Act.eval, List.setIfInBounds_toArray, List.set_cons_succ, List.set_cons_zero, Array.getD_eq_getD_getElem?, List.getElem?_toArray, List.getElem?_cons_succ, List.getElem?_cons_zero, Option.getD_some])))
      refine wp_region_holds (by kernel_rfl) (by kernel_rfl) HH.out ?_
      repeat ((first
        | ((with_reducible apply wpQ_skip); rfl; skip)
        | ((with_reducible apply wpQ_indexVar (m := k) (t := 38) Try.underlying38 kS5); rfl; rfl; rfl; (exact hlt); rfl)
        | ((with_reducible apply wpQ_load1 (t := 5) (v := byt b) kO5); rfl; (exact .here); (exact HCB.out); rfl)
        | ((with_reducible apply wpQ_quoB (b := b) (n := 16) (r := b.toNat / 16)); rfl; rfl; rfl; (exact (by omega)); rfl; rfl)
        | ((with_reducible apply wpQ_remB (b := b) (n := 16) (r := b.toNat % 16)); rfl; rfl; rfl; (exact (by omega)); rfl; rfl)
        | ((with_reducible apply wpQ_addB (dst := some 20) (r := ((b.toNat / 16 + 1 : Nat) : Int))); rfl; rfl; (exact (by omega)); (exact (by omega)); rfl)
        | ((with_reducible apply wpQ_addB (dst := some 32) (r := ((b.toNat % 16 + 1 : Nat) : Int))); rfl; rfl; (exact (by omega)); (exact (by omega)); rfl)
        | ((with_reducible apply wpQ_sliceStr (dst := some 21) (l := hexT) (m := [hexC (b.toNat / 16)]) (i := b.toNat / 16) (j := b.toNat / 16 + 1) Try.underlying9); rfl; (exact .inr ⟨_, rfl⟩); (exact .inr ⟨_, rfl⟩); (exact (by omega)); (exact (by simp [hexT]; omega)); (exact hexT_sub (by omega)); rfl)
        | ((with_reducible apply wpQ_sliceStr (dst := some 33) (l := hexT) (m := [hexC (b.toNat % 16)]) (i := b.toNat % 16) (j := b.toNat % 16 + 1) Try.underlying9); rfl; (exact .inr ⟨_, rfl⟩); (exact .inr ⟨_, rfl⟩); (exact (by omega)); (exact (by simp [hexT]; omega)); (exact hexT_sub (by omega)); rfl)
        | ((with_reducible apply wpQ_addStr (dst := some 22) (l := s) (m := [hexC (b.toNat / 16)]) (r := s ++ [hexC (b.toNat / 16)])); rfl; rfl; (exact (by simp; omega)); rfl; rfl)
        | ((with_reducible apply wpQ_addStr (dst := some 34) (l := s ++ [hexC (b.toNat / 16)]) (m := [hexC (b.toNat % 16)]) (r := [60] ++ hexB (d.1.take (k + 1)))); rfl; rfl; (exact (by simp; omega)); (exact HST.out); rfl)
        | ((with_reducible apply wpQ_nilCheck); rfl; rfl)
        | ((with_reducible apply wpQ_load1 (t := 5) kO5); rfl; (first | exact .here | exact .there .here | exact .there (.there .here) | exact .there (.there (.there .here)) | exact .there (.there (.there (.there .here))) | exact .there (.there (.there (.there (.there .here)))) | exact .there (.there (.there (.there (.there (.there .here))))) | exact .there (.there (.there (.there (.there (.there (.there .here))))))); rfl; rfl)
        | ((with_reducible apply wpQ_move); rfl; rfl)
        | ((with_reducible apply wpQ_assign); rfl; rfl)
        | ((with_reducible apply wpQ_pick); rfl; rfl; rfl)
        | ((with_reducible apply wpQ_not); rfl; rfl)
        | ((with_reducible apply wpQ_cmp (b := true)); rfl; rfl; rfl; (first | rfl | assumption | (simp only [cmpB, decide_eq_true_eq, decide_eq_false_iff_not, beq_iff_eq, bne_iff_ne, ne_eq, beq_eq_false_iff_ne, bne_eq_false_iff_eq, gt_iff_lt, ge_iff_le]; omega) | (simp; omega)); rfl)
        | ((with_reducible apply wpQ_cmp (b := false)); rfl; rfl; rfl; (first | rfl | assumption | (simp only [cmpB, decide_eq_true_eq, decide_eq_false_iff_not, beq_iff_eq, bne_iff_ne, ne_eq, beq_eq_false_iff_ne, bne_eq_false_iff_eq, gt_iff_lt, ge_iff_le]; omega) | (simp; omega)); rfl)
        | ((with_reducible apply wpQ_cmp); rfl; rfl; rfl; rfl; rfl)
        | ((with_reducible apply wpQ_arith); rfl; rfl; rfl; (exact IntWalk.i64_in _ (by (try simp only [arithI]); omega)); rfl)); (try simp only [if_true, if_false, Bool.false_eq_true, arithI, Act.put, Act.eval, List.setIfInBounds_toArray, List.set_cons_succ, List.set_cons_zero, Array.getD_eq_getD_getElem?, List.getElem?_toArray, List.getElem?_cons_succ, List.getElem?_cons_zero, Option.getD_some]))
      refine wpQuiet_nil ?_
      intro wq hq_
      have HQ := hid hq_
      clear hq_
      clear HH
      have HH := HQ
      clear HQ
      go_wp2_with (first
        | ((first
            | ((with_reducible apply wpL_skip); rfl; skip)
            | ((with_reducible apply wpL_nilCheck); rfl; rfl)
            | ((with_reducible apply wpL_load1 (t := 5) kO5 HH.out); rfl; (first | exact .here | exact .there .here | exact .there (.there .here) | exact .there (.there (.there .here)) | exact .there (.there (.there (.there .here))) | exact .there (.there (.there (.there (.there .here)))) | exact .there (.there (.there (.there (.there (.there .here))))) | exact .there (.there (.there (.there (.there (.there (.there .here))))))); rfl; rfl)
            | ((with_reducible apply wpL_boxArr (dst := some 1)); rfl; (exact HH.out); rfl; (intro g1_ w_ hq_; (try simp only [List.set_cons_zero, List.set_cons_succ] at hq_); clear HH; have HH := hid hq_; clear hq_))
            | ((with_reducible apply wpL_move); rfl; rfl)
            | ((with_reducible apply wpL_assign); rfl; rfl)
            | ((with_reducible apply wpL_pick); rfl; rfl; rfl)
            | ((with_reducible apply wpL_not); rfl; rfl)
            | ((with_reducible apply wpL_cmp (b := true)); rfl; rfl; rfl; (first | rfl | assumption | (simp only [cmpB, decide_eq_true_eq, decide_eq_false_iff_not, beq_iff_eq, bne_iff_ne, ne_eq, beq_eq_false_iff_ne, bne_eq_false_iff_eq, gt_iff_lt, ge_iff_le]; omega) | (simp; omega)); rfl)
            | ((with_reducible apply wpL_cmp (b := false)); rfl; rfl; rfl; (first | rfl | assumption | (simp only [cmpB, decide_eq_true_eq, decide_eq_false_iff_not, beq_iff_eq, bne_iff_ne, ne_eq, beq_eq_false_iff_ne, bne_eq_false_iff_eq, gt_iff_lt, ge_iff_le]; omega) | (simp; omega)); rfl)
            | ((with_reducible apply wpL_cmp); rfl; rfl; rfl; rfl; rfl)
            | ((with_reducible apply wpL_arith); rfl; rfl; rfl; (exact IntWalk.i64_in _ (by (try simp only [arithI]); omega)); rfl)); (try simp only [arithI, Act.put, Act.eval, List.setIfInBounds_toArray, List.set_cons_succ, List.set_cons_zero, Array.getD_eq_getD_getElem?, List.getElem?_toArray, List.getElem?_cons_succ, List.getElem?_cons_zero, Option.getD_some])))
      go_roundw
      case rel => exact ⟨k + 1, by omega, by go_num, rfl, HH.out⟩
      case measure => simp [intOf]; omega
    · obtain rfl : k = 32 := by omega
      have ht : d.1.take 32 = d.1 := List.take_of_length_le (by rw [HD.out]; omega)
      have HT := hid (show ([60] ++ hexB (d.1.take 32)) ++ [64, 104, 97, 115, 104, 62] = textL d by unfold textL; rw [ht])
      have HL := hid hlen
      clear ht hlen
      obtain ⟨s, hs⟩ : ∃ s, [60] ++ hexB (d.1.take 32) = s := ⟨_, rfl⟩
      rw [hs] at HT HL
      rw [hs]
      clear hs
      go_wp2_with (first
        | ((first
            | ((with_reducible apply wpL_skip); rfl; skip)
            | ((with_reducible apply wpL_addStr (dst := some 36) (l := s) (m := [64, 104, 97, 115, 104, 62]) (r := textL d)); rfl; rfl; (exact (by simp [HL.out])); (exact HT.out); rfl)
            | ((with_reducible apply wpL_nilCheck); rfl; rfl)
            | ((with_reducible apply wpL_load1 (t := 5) kO5 HH.out); rfl; (first | exact .here | exact .there .here | exact .there (.there .here) | exact .there (.there (.there .here)) | exact .there (.there (.there (.there .here))) | exact .there (.there (.there (.there (.there .here)))) | exact .there (.there (.there (.there (.there (.there .here))))) | exact .there (.there (.there (.there (.there (.there (.there .here))))))); rfl; rfl)
            | ((with_reducible apply wpL_boxArr (dst := some 1)); rfl; (exact HH.out); rfl; (intro g1_ w_ hq_; (try simp only [List.set_cons_zero, List.set_cons_succ] at hq_); clear HH; have HH := hid hq_; clear hq_))
            | ((with_reducible apply wpL_move); rfl; rfl)
            | ((with_reducible apply wpL_assign); rfl; rfl)
            | ((with_reducible apply wpL_pick); rfl; rfl; rfl)
            | ((with_reducible apply wpL_not); rfl; rfl)
            | ((with_reducible apply wpL_cmp (b := true)); rfl; rfl; rfl; (first | rfl | assumption | (simp only [cmpB, decide_eq_true_eq, decide_eq_false_iff_not, beq_iff_eq, bne_iff_ne, ne_eq, beq_eq_false_iff_ne, bne_eq_false_iff_eq, gt_iff_lt, ge_iff_le]; omega) | (simp; omega)); rfl)
            | ((with_reducible apply wpL_cmp (b := false)); rfl; rfl; rfl; (first | rfl | assumption | (simp only [cmpB, decide_eq_true_eq, decide_eq_false_iff_not, beq_iff_eq, bne_iff_ne, ne_eq, beq_eq_false_iff_ne, bne_eq_false_iff_eq, gt_iff_lt, ge_iff_le]; omega) | (simp; omega)); rfl)
            | ((with_reducible apply wpL_cmp); rfl; rfl; rfl; rfl; rfl)
            | ((with_reducible apply wpL_arith); rfl; rfl; rfl; (exact IntWalk.i64_in _ (by (try simp only [arithI]); omega)); rfl)); (try simp only [arithI, Act.put, Act.eval, List.setIfInBounds_toArray, List.set_cons_succ, List.set_cons_zero, Array.getD_eq_getD_getElem?, List.getElem?_toArray, List.getElem?_cons_succ, List.getElem?_cons_zero, Option.getD_some])))
      go_ret
      exact ⟨rfl, HH.out.below⟩
end Go.Proofs.Ytohdkmgnnncpkaa
