/- Hex of ascii, String of a digest. Condition: some bytes, at most two hundred thousand. -/
import Derived.Test.YtohdkmgnnncpkaaRH3
set_option linter.unusedSimpArgs false
set_option linter.unusedVariables false
namespace Go.Proofs.Ytohdkmgnnncpkaa
open Go.RowKit
section
variable {P : Program} {ops : Array Oper} {rest : List Oper} {a : Act} {dst : Option Tmp} {ty : TypeId} {pos : String} {after : Array Edge} {guard : Option (Nat × Bool)} {w w0 : World} {S : List Nat} {bs : List (Nat × Obj)} {rows : List Row} {Q : Exit → Act → World → Prop} {C : World → Prop} {K : Act → Prop}
theorem wpL_idxB {t e : TypeId} {bytes : Nat} (hE : Elem P t e 1 bytes) {x i : Operand} {ad : Addr} {n c j : Nat} {q : Int} {k : IntKind} (hx : a.eval x = .slice (some ad) n c) (hi : a.eval i = .int k q) (hq : q = (j : Int)) (hj : j < n)
    (hg : Region.wanted { dst := dst, op := .indexAddr t x i, type := ty, pos := pos, after := after, guard := guard } (yielded ops a.tmps) = true)
    (h : wpList P ops Q rest (a.put dst (.pointer (some (ad.add j)))) w) : wpList P ops Q ({ dst := dst, op := .indexAddr t x i, type := ty, pos := pos, after := after, guard := guard } :: rest) a w :=
  wpList_ex hg (ex_index (ρ := a.eval) hE hx hi hq hj w) (by rw [Nat.mul_one]; exact h)
theorem wpL_idx {t e : TypeId} {sz bytes : Nat} (hE : Elem P t e sz bytes) {x i : Operand} {ad : Addr} {n c j : Nat} {q : Int} {k : IntKind} (hx : a.eval x = .slice (some ad) n c) (hi : a.eval i = .int k q) (hq : q = (j : Int)) (hj : j < n)
    (hg : Region.wanted { dst := dst, op := .indexAddr t x i, type := ty, pos := pos, after := after, guard := guard } (yielded ops a.tmps) = true)
    (h : wpList P ops Q rest (a.put dst (.pointer (some (ad.add (j * sz))))) w) : wpList P ops Q ({ dst := dst, op := .indexAddr t x i, type := ty, pos := pos, after := after, guard := guard } :: rest) a w :=
  wpList_ex hg (ex_index (ρ := a.eval) hE hx hi hq hj w) h
theorem Holds.addNil (h : Holds w0 S bs rows w) (e : TypeId) (sz : Nat) : Holds w0 S bs (⟨.slice none 0 0, e, sz, 0, []⟩ :: rows) w :=
  h.addRow (Below.refl _ _) (World.ownsRow_nil _ _ _ _)
/-- A whole array that lies in a block of the call's own, taken as a slice. -/
theorem Byts.ofArr {n : Nat} {x : Arr n} (h : Holds w0 S bs rows w) {g : Nat} {e : TypeId} (ho : Own bs g (objC x.cells e)) {m cap : Nat} (hm : m ≤ n) (hc : m ≤ cap) : Byts w (.slice (some ⟨g, 0, none⟩) m cap) (x.1.take m) := by
  have hl : (x.1.take m).length = m := by rw [List.length_take, x.2]; omega
  refine ⟨_, cap, by rw [hl], by omega, by simp, fun j u hu => ⟨_, rfl, ?_⟩⟩
  have hadd : (⟨g, 0, none⟩ : Addr).add j = ⟨g, j, none⟩ := by unfold Addr.add; split <;> simp_all
  rw [hadd, cell_own h ho j, List.getElem?_toArray]
  rw [List.map_take, List.getElem?_take] at hu
  split at hu
  · exact hu
  · cases hu
theorem Byts.cellB {a : Addr} {n cap : Nat} {l : List UInt8} {cs : List Value} (h : Sl w (.slice (some a) n cap) 1 l.length cs) (j : Nat) (u : Value) (hu : cs[j]? = some u) : w.cell? (a.add j) = some u := by
  obtain ⟨rfl, _⟩ := h.cap
  exact h.cell j u hu
theorem Byts.ofArrAll {n : Nat} {x : Arr n} (h : Holds w0 S bs rows w) {g : Nat} {e : TypeId} (ho : Own bs g (objC x.cells e)) : Byts w (.slice (some ⟨g, 0, none⟩) n n) x.1 := by
  have := Byts.ofArr h ho (Nat.le_refl n) (Nat.le_refl n)
  rwa [List.take_of_length_le (by rw [x.2]; omega)] at this
/-- x[:k] of an array that lies in a block. -/
theorem wpL_sliceArr {t e : TypeId} {n sz : Nat} (ht : P.underlying t = some (.array n e)) (hz : (P.info? e).map (·.size) = some sz) {x : Operand} {g : Nat} (hx : a.eval x = .pointer (some ⟨g, 0, none⟩))
    (hg : Region.wanted { dst := dst, op := .slice t x none none none, type := ty, pos := pos, after := after, guard := guard } (yielded ops a.tmps) = true)
    (h : wpList P ops Q rest (a.put dst (.slice (some ⟨g, 0, none⟩) n n)) w) : wpList P ops Q ({ dst := dst, op := .slice t x none none none, type := ty, pos := pos, after := after, guard := guard } :: rest) a w := by
  refine wpList_ex hg ?_ h
  simp [execOp, hx, Instr.sliceAt, Instr.slice, Instr.sliceBounds, Instr.sliceBound, asIntOf, run_underlying ht, run_sizeOf hz, Addr.add, Instr.sureAddr]
theorem wpL_sliceArrTo {t e : TypeId} {n sz : Nat} (ht : P.underlying t = some (.array n e)) (hz : (P.info? e).map (·.size) = some sz) {x hi : Operand} {g m : Nat} {k : IntKind} {q : Int} (hx : a.eval x = .pointer (some ⟨g, 0, none⟩)) (hh : a.eval hi = .int k q) (hq : q = (m : Int)) (hm : m ≤ n)
    (hg : Region.wanted { dst := dst, op := .slice t x none (some hi) none, type := ty, pos := pos, after := after, guard := guard } (yielded ops a.tmps) = true)
    (h : wpList P ops Q rest (a.put dst (.slice (some ⟨g, 0, none⟩) m n)) w) : wpList P ops Q ({ dst := dst, op := .slice t x none (some hi) none, type := ty, pos := pos, after := after, guard := guard } :: rest) a w := by
  subst hq
  refine wpList_ex hg ?_ h
  simp [execOp, hx, hh, Instr.sliceAt, Instr.slice, Instr.sliceBounds, Instr.sliceBound, asIntOf, run_underlying ht, run_sizeOf hz, Addr.add, Instr.sureAddr, hm]
theorem wpQ_sliceArr {t e : TypeId} {n sz : Nat} (ht : P.underlying t = some (.array n e)) (hz : (P.info? e).map (·.size) = some sz) {x : Operand} {g : Nat} (hx : a.eval x = .pointer (some ⟨g, 0, none⟩))
    (hg : Region.wanted { dst := dst, op := .slice t x none none none, type := ty, pos := pos, after := after, guard := guard } (yielded ops a.tmps) = true)
    (h : wpQuiet P ops C K rest (a.put dst (.slice (some ⟨g, 0, none⟩) n n))) : wpQuiet P ops C K ({ dst := dst, op := .slice t x none none none, type := ty, pos := pos, after := after, guard := guard } :: rest) a := by
  refine wpQuiet_ex hg (fun w _ => ?_) h
  simp [execOp, hx, Instr.sliceAt, Instr.slice, Instr.sliceBounds, Instr.sliceBound, asIntOf, run_underlying ht, run_sizeOf hz, Addr.add, Instr.sureAddr]
theorem wpQ_sliceArrTo {t e : TypeId} {n sz : Nat} (ht : P.underlying t = some (.array n e)) (hz : (P.info? e).map (·.size) = some sz) {x hi : Operand} {g m : Nat} {k : IntKind} {q : Int} (hx : a.eval x = .pointer (some ⟨g, 0, none⟩)) (hh : a.eval hi = .int k q) (hq : q = (m : Int)) (hm : m ≤ n)
    (hg : Region.wanted { dst := dst, op := .slice t x none (some hi) none, type := ty, pos := pos, after := after, guard := guard } (yielded ops a.tmps) = true)
    (h : wpQuiet P ops C K rest (a.put dst (.slice (some ⟨g, 0, none⟩) m n))) : wpQuiet P ops C K ({ dst := dst, op := .slice t x none (some hi) none, type := ty, pos := pos, after := after, guard := guard } :: rest) a := by
  subst hq
  refine wpQuiet_ex hg (fun w _ => ?_) h
  simp [execOp, hx, hh, Instr.sliceAt, Instr.slice, Instr.sliceBounds, Instr.sliceBound, asIntOf, run_underlying ht, run_sizeOf hz, Addr.add, Instr.sureAddr, hm]
end
def RetS (w : World) (l : List UInt8) (e : Ending) (w' : World) : Prop := e = .returned (str l) ∧ Below w.heap.size w w'
def HexRel (w : World) (l : List UInt8) (g : Nat) (i : Value) (wr : World) : Prop :=
  ∃ k : Nat, k ≤ l.length ∧ i = .int .i64 k ∧ ∃ p ao cap, (p = .pointer none ∨ p = selfP g) ∧ Holds w [] [(g, objC [p, .slice ao (hexB (l.take k)).length cap] 87)] [rowB ao cap (hexB (l.take k))] wr
set_option maxRecDepth 100000 in
set_option maxHeartbeats 2000000 in
theorem hex_any (w : World) (v : Value) (l : List UInt8) (hl : Byts w v l) (h0 : l ≠ []) (hn : l.length ≤ 200000) : Calls Try.prog 55 #[v] w (RetS w (hexB l)) := by
  obtain ⟨ao, cap, rfl, _⟩ := hl.shape
  have HL := hid hl
  have H0 := hid h0
  clear hl h0
  have HH := hid (Holds.init w)
  go_enter Try.func55, Try.ntmps55
  go_wp2_with (first
    | ((first
        | ((with_reducible apply wpL_skip); rfl; skip)
        | ((with_reducible apply wpL_nilCheck); rfl; rfl)
        | ((with_reducible apply wpL_load1 (t := 5) kO5 HH.out); rfl; (first | exact .here | exact .there .here | exact .there (.there .here) | exact .there (.there (.there .here)) | exact .there (.there (.there (.there .here))) | exact .there (.there (.there (.there (.there .here)))) | exact .there (.there (.there (.there (.there (.there .here))))) | exact .there (.there (.there (.there (.there (.there (.there .here))))))); rfl; rfl)
        | ((with_reducible apply wpL_len (t := 81) Try.underlying81); rfl; rfl)
        | ((with_reducible apply wpL_allocC (dst := some 3) kZ87 HH.out); rfl; (intro g3_ w_ hq_; (try simp only [List.set_cons_zero, List.set_cons_succ] at hq_); clear HH; have HH := hid hq_; clear hq_))
        | ((with_reducible apply wpL_move); rfl; rfl)
        | ((with_reducible apply wpL_assign); rfl; rfl)
        | ((with_reducible apply wpL_pick); rfl; rfl; rfl)
        | ((with_reducible apply wpL_not); rfl; rfl)
        | ((with_reducible apply wpL_cmp (b := true)); rfl; rfl; rfl; (first | rfl | assumption | (simp only [cmpB, decide_eq_true_eq, decide_eq_false_iff_not, beq_iff_eq, bne_iff_ne, ne_eq, beq_eq_false_iff_ne, bne_eq_false_iff_eq, gt_iff_lt, ge_iff_le]; omega) | (simp; omega)); rfl)
        | ((with_reducible apply wpL_cmp (b := false)); rfl; rfl; rfl; (first | rfl | assumption | (simp only [cmpB, decide_eq_true_eq, decide_eq_false_iff_not, beq_iff_eq, bne_iff_ne, ne_eq, beq_eq_false_iff_ne, bne_eq_false_iff_eq, gt_iff_lt, ge_iff_le]; omega) | (simp; omega)); rfl)
        | ((with_reducible apply wpL_cmp); rfl; rfl; rfl; rfl; rfl)
        | ((with_reducible apply wpL_arith); rfl; rfl; rfl; (exact IntWalk.i64_in _ (by (try simp only [arithI]); omega)); rfl)); (try simp only [arithI, Act.put, Act.eval, List.setIfInBounds_toArray, List.set_cons_succ, List.set_cons_zero, Array.getD_eq_getD_getElem?, List.getElem?_toArray, List.getElem?_cons_succ, List.getElem?_cons_zero, Option.getD_some])))
  go_loopw [8] (HexRel w l g3_) (fun i _ => l.length - (intOf i).toNat)
  case atStart => exact ⟨0, Nat.zero_le _, rfl, _, none, 0, .inl rfl, HH.out.addNil 5 1⟩
  case round =>
    obtain ⟨k, hk, rfl, p, ao1, cap1, hp, hr⟩ := hrel
    clear HH
    have HH := hid hr
    clear hr
    have hlen : (hexB (l.take k)).length = 2 * k := by rw [hexB_len, List.length_take]; omega
    by_cases hlt : k < l.length
    · obtain ⟨ad, cap', e⟩ := HL.out.some (by omega)
      cases e
      have HS := hid (hexB_snoc hlt)
      have hb := l[k].toNat_lt
      have hd : l.getD k 0 = l[k] := by simp [hlt]
      have HD := hid hd
      clear hd
      have hw16 := hid (show IntKind.u8.wrap ((l[k].toNat % 16 : Nat) : Int) = ((l[k].toNat % 16 : Nat) : Int) from IntWalk.u8_in _ (by omega))
      have hand := hid (show l[k].toNat &&& 15 = l[k].toNat % 16 from Nat.and_two_pow_sub_one_eq_mod _ 4)
      go_wp2_with (first
        | ((first
            | ((with_reducible apply wpL_skip); rfl; skip)
            | ((with_reducible apply wpL_idxB (j := k) kE81); rfl; rfl; rfl; (exact hlt); rfl)
            | ((with_reducible apply wpL_loadAt (v := byt l[k]) kO5); (have hc_ := (HH.out.sl HL.out).cell k (byt l[k]) (by simp [hlt]); exact hc_); rfl; rfl)
            | ((with_reducible apply wpL_shrB (n := 4) (r := l[k].toNat / 16)); rfl; rfl; rfl; (exact (by omega)); rfl; rfl)
            | ((with_reducible apply wpL_and (m := l[k].toNat) (n := 15) (r := l[k].toNat % 16)); rfl; rfl; rfl; rfl; (exact hb); (exact (by decide)); (exact hand.out); (exact hw16.out); rfl)
            | ((with_reducible apply wpL_indexStr (l := hexT) (m := l[k].toNat / 16) (v := hexC (l[k].toNat / 16)) Try.underlying9); rfl; rfl; rfl; (exact (by simp [hexT]; omega)); rfl; rfl)
            | ((with_reducible apply wpL_indexStr (l := hexT) (m := l[k].toNat % 16) (v := hexC (l[k].toNat % 16)) Try.underlying9); rfl; rfl; rfl; (exact (by simp [hexT]; omega)); rfl; rfl)
            | (go_at_call 59; (have hcall_ := hid (writeByte_own _ _ _ g3_ _ _ _ _ _ (hexC (l[k].toNat / 16)) _ _ hp rfl (by omega) HH.out)); (with_reducible refine hcall_.out.mono ?_); clear hcall_; rintro e_ w2_ ⟨rfl, ao2, cap2, hq_⟩; clear HH; have HH := hid hq_; clear hq_)
            | (go_at_call 59; (have hcall_ := hid (writeByte_own _ _ _ g3_ _ _ _ _ _ (hexC (l[k].toNat % 16)) _ _ (.inr rfl) rfl (by simp; omega) HH.out)); (with_reducible refine hcall_.out.mono ?_); clear hcall_; rintro e_ w2_ ⟨rfl, ao3, cap3, hq_⟩; clear HH; have HH := hid hq_; clear hq_)
            | ((with_reducible apply wpL_nilCheck); rfl; rfl)
            | ((with_reducible apply wpL_load1 (t := 5) kO5 HH.out); rfl; (first | exact .here | exact .there .here | exact .there (.there .here) | exact .there (.there (.there .here)) | exact .there (.there (.there (.there .here))) | exact .there (.there (.there (.there (.there .here)))) | exact .there (.there (.there (.there (.there (.there .here))))) | exact .there (.there (.there (.there (.there (.there (.there .here))))))); rfl; rfl)
            | ((with_reducible apply wpL_len (t := 81) Try.underlying81); rfl; rfl)
            | ((with_reducible apply wpL_allocC (dst := some 3) kZ87 HH.out); rfl; (intro g3_ w_ hq_; (try simp only [List.set_cons_zero, List.set_cons_succ] at hq_); clear HH; have HH := hid hq_; clear hq_))
            | ((with_reducible apply wpL_move); rfl; rfl)
            | ((with_reducible apply wpL_assign); rfl; rfl)
            | ((with_reducible apply wpL_pick); rfl; rfl; rfl)
            | ((with_reducible apply wpL_not); rfl; rfl)
            | ((with_reducible apply wpL_cmp (b := true)); rfl; rfl; rfl; (first | rfl | assumption | (simp only [cmpB, decide_eq_true_eq, decide_eq_false_iff_not, beq_iff_eq, bne_iff_ne, ne_eq, beq_eq_false_iff_ne, bne_eq_false_iff_eq, gt_iff_lt, ge_iff_le]; omega) | (simp; omega)); rfl)
            | ((with_reducible apply wpL_cmp (b := false)); rfl; rfl; rfl; (first | rfl | assumption | (simp only [cmpB, decide_eq_true_eq, decide_eq_false_iff_not, beq_iff_eq, bne_iff_ne, ne_eq, beq_eq_false_iff_ne, bne_eq_false_iff_eq, gt_iff_lt, ge_iff_le]; omega) | (simp; omega)); rfl)
            | ((with_reducible apply wpL_cmp); rfl; rfl; rfl; rfl; rfl)
            | ((with_reducible apply wpL_arith); rfl; rfl; rfl; (exact IntWalk.i64_in _ (by (try simp only [arithI]); omega)); rfl)); (try simp only [arithI, Act.put, Act.eval, List.setIfInBounds_toArray, List.set_cons_succ, List.set_cons_zero, Array.getD_eq_getD_getElem?, List.getElem?_toArray, List.getElem?_cons_succ, List.getElem?_cons_zero, Option.getD_some])))
      go_roundw
      case rel => exact ⟨k + 1, by omega, by go_num, _, _, _, .inr rfl, by rw [HS.out]; exact HH.out⟩
      case measure => simp [intOf]; omega
    · obtain rfl : k = l.length := by omega
      rw [List.take_length] at hlen
      have h1 := HH.out
      rw [List.take_length] at h1
      clear HH
      have HH := hid h1
      clear h1
      have hne : hexB l ≠ [] := by
        intro e
        have := hexB_len l
        rw [e] at this
        have := List.length_pos_iff.2 H0.out
        simp at *
        omega
      have HN := hid hne
      clear hne
      go_wp2_with (first
        | ((first
            | ((with_reducible apply wpL_skip); rfl; skip)
            | (go_at_call 52; (first | ((have hcall_ := hid (string_own _ _ _ g3_ _ _ _ _ _ _ _ rfl HN.out (by omega) HH.out)); (with_reducible refine hcall_.out.mono ?_); clear hcall_) | (with_reducible refine (string_own _ _ _ g3_ _ _ _ _ _ _ _ rfl HN.out (by omega) HH.out).mono ?_)); rintro e_ w2_ ⟨rfl, hb_⟩; (have hq_ := hb_); clear HH; have HH := hid hq_; clear hq_)
            | ((with_reducible apply wpL_nilCheck); rfl; rfl)
            | ((with_reducible apply wpL_load1 (t := 5) kO5 HH.out); rfl; (first | exact .here | exact .there .here | exact .there (.there .here) | exact .there (.there (.there .here)) | exact .there (.there (.there (.there .here))) | exact .there (.there (.there (.there (.there .here)))) | exact .there (.there (.there (.there (.there (.there .here))))) | exact .there (.there (.there (.there (.there (.there (.there .here))))))); rfl; rfl)
            | ((with_reducible apply wpL_len (t := 81) Try.underlying81); rfl; rfl)
            | ((with_reducible apply wpL_allocC (dst := some 3) kZ87 HH.out); rfl; (intro g3_ w_ hq_; (try simp only [List.set_cons_zero, List.set_cons_succ] at hq_); clear HH; have HH := hid hq_; clear hq_))
            | ((with_reducible apply wpL_move); rfl; rfl)
            | ((with_reducible apply wpL_assign); rfl; rfl)
            | ((with_reducible apply wpL_pick); rfl; rfl; rfl)
            | ((with_reducible apply wpL_not); rfl; rfl)
            | ((with_reducible apply wpL_cmp (b := true)); rfl; rfl; rfl; (first | rfl | assumption | (simp only [cmpB, decide_eq_true_eq, decide_eq_false_iff_not, beq_iff_eq, bne_iff_ne, ne_eq, beq_eq_false_iff_ne, bne_eq_false_iff_eq, gt_iff_lt, ge_iff_le]; omega) | (simp; omega)); rfl)
            | ((with_reducible apply wpL_cmp (b := false)); rfl; rfl; rfl; (first | rfl | assumption | (simp only [cmpB, decide_eq_true_eq, decide_eq_false_iff_not, beq_iff_eq, bne_iff_ne, ne_eq, beq_eq_false_iff_ne, bne_eq_false_iff_eq, gt_iff_lt, ge_iff_le]; omega) | (simp; omega)); rfl)
            | ((with_reducible apply wpL_cmp); rfl; rfl; rfl; rfl; rfl)
            | ((with_reducible apply wpL_arith); rfl; rfl; rfl; (exact IntWalk.i64_in _ (by (try simp only [arithI]); omega)); rfl)); (try simp only [arithI, Act.put, Act.eval, List.setIfInBounds_toArray, List.set_cons_succ, List.set_cons_zero, Array.getD_eq_getD_getElem?, List.getElem?_toArray, List.getElem?_cons_succ, List.getElem?_cons_zero, Option.getD_some])))
      go_ret
      exact ⟨rfl, HH.out.below⟩
set_option maxRecDepth 100000 in
set_option maxHeartbeats 2000000 in
theorem string_any (w : World) (d : Arr 32) : Calls Try.prog 49 #[d.val] w (RetS w (hexB d.1)) := by
  have HH := hid (Holds.init w)
  have HD := hid d.2
  go_enter Try.func49, Try.ntmps49
  go_wp2_with (first
    | ((first
        | ((with_reducible apply wpL_skip); rfl; skip)
        | ((with_reducible apply wpL_boxC (cs := d.cells) (dst := some 1)); rfl; (exact HH.out); rfl; (intro g1_ w_ hq_; clear HH; have HH := hid hq_; clear hq_))
        | ((with_reducible apply wpL_sliceArr Try.underlying33 kS5); rfl; rfl)
        | (go_at_call 55; (first | ((have hcall_ := hid (hex_any _ _ d.1 (Byts.ofArrAll (x := d) HH.out .here) (by intro e; have hd := HD.out; rw [e] at hd; simp at hd) (by rw [HD.out]; omega))); (with_reducible refine hcall_.out.mono ?_); clear hcall_) | (with_reducible refine (hex_any _ _ d.1 (Byts.ofArrAll (x := d) HH.out .here) (by intro e; have hd := HD.out; rw [e] at hd; simp at hd) (by rw [HD.out]; omega)).mono ?_)); rintro e_ w2_ ⟨rfl, hb_⟩; (have hq_ := HH.out.grow hb_); clear HH; have HH := hid hq_; clear hq_ hb_)
        | ((with_reducible apply wpL_nilCheck); rfl; rfl)
        | ((with_reducible apply wpL_boxArr (dst := some 1)); rfl; (exact HH.out); rfl; (intro g1_ w_ hq_; (try simp only [List.set_cons_zero, List.set_cons_succ] at hq_); clear HH; have HH := hid hq_; clear hq_))
        | ((with_reducible apply wpL_move); rfl; rfl)
        | ((with_reducible apply wpL_assign); rfl; rfl)
        | ((with_reducible apply wpL_pick); rfl; rfl; rfl)
        | ((with_reducible apply wpL_not); rfl; rfl)
        | ((with_reducible apply wpL_cmp (b := true)); rfl; rfl; rfl; (first | rfl | assumption | (simp only [cmpB, decide_eq_true_eq, decide_eq_false_iff_not, beq_iff_eq, bne_iff_ne, ne_eq, beq_eq_false_iff_ne, bne_eq_false_iff_eq, gt_iff_lt, ge_iff_le]; omega) | (simp; omega)); rfl)
        | ((with_reducible apply wpL_cmp (b := false)); rfl; rfl; rfl; (first | rfl | assumption | (simp only [cmpB, decide_eq_true_eq, decide_eq_false_iff_not, beq_iff_eq, bne_iff_ne, ne_eq, beq_eq_false_iff_ne, bne_eq_false_iff_eq, gt_iff_lt, ge_iff_le]; omega) | (simp; omega)); rfl)
        | ((with_reducible apply wpL_cmp); rfl; rfl; rfl; rfl; rfl)
        | ((with_reducible apply wpL_arith); rfl; rfl; rfl; (exact IntWalk.i64_in _ (by (try simp only [arithI]); omega)); rfl)); (try simp only [arithI, Act.put, Act.eval, List.setIfInBounds_toArray, List.set_cons_succ, List.set_cons_zero, Array.getD_eq_getD_getElem?, List.getElem?_toArray, List.getElem?_cons_succ, List.getElem?_cons_zero, Option.getD_some])))
  go_ret
  exact ⟨rfl, HH.out.below⟩
end Go.Proofs.Ytohdkmgnnncpkaa
