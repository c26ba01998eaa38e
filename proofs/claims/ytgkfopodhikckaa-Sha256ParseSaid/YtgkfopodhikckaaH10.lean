/- The laws Sha256Lengths and Sha256Write: they return true. Condition: slices of at most 2^47 bytes. -/
import Derived.Test.YtgkfopodhikckaaH8
set_option linter.unusedSimpArgs false
set_option linter.unusedVariables false
namespace Go.Proofs.Ytgkfopodhikckaa
open Go.RowKit
theorem arrNe {n : Nat} (x : Arr n) : (!(x == x)) = false := by rw [arrRefl]; rfl
theorem hLen0 (w0 w : World) (S : List Nat) (bs : List (Nat × Obj)) (rows : List Row) (g : Nat) (hH : Holds w0 S bs rows w) (h : HashAt bs g []) :
    Calls Try.prog 39 #[.pointer (some ⟨g, 0, none⟩)] w (fun e w' => e = .returned (.int .i64 0) ∧ Below w.heap.size w w') := hLen w0 w S bs rows g [] hH h
def LenRel (w : World) (c : UInt8) (g : Nat) (bv iv : Value) (wr : World) : Prop :=
  ∃ (k : Nat) (l : List UInt8) (bs : List (Nat × Obj)) (ao : Option Addr) (cap : Nat), k ≤ 201 ∧ l.length = k ∧ iv = .int .i64 k ∧ bv = .slice ao l.length cap ∧ HashAt bs g l ∧ Holds w [] bs [rowB ao cap l] wr
set_option maxRecDepth 100000 in
set_option maxHeartbeats 2000000 in
theorem law_lengths (w : World) (c : UInt8) : Calls Try.prog 5 #[byt c] w (RetB w true) := by
  have HH := hid (Holds.init w)
  go_enter Try.func5, Try.ntmps5
  go_wp2_with (first
    | ((first
        | ((with_reducible apply wpL_skip); rfl; skip)
        | (go_at_call 32; (have hcall_ := hid (hNew w _ _ _ _ HH.out)); (with_reducible refine hcall_.out.mono ?_); clear hcall_; rintro e_ w2_ ⟨g1, bs1, rfl, hq_, ha_, -⟩; clear HH; have HH := hid hq_; have H1 := hid ha_; clear hq_ ha_)
        | (go_at_call 21; (first | ((have hcall_ := hid (known_any _)); (with_reducible refine hcall_.out.mono ?_); clear hcall_) | (with_reducible refine (known_any _).mono ?_)); rintro e_ w2_ ⟨rfl, hb_⟩; (have hq_ := HH.out.grow hb_); clear HH; have HH := hid hq_; clear hq_ hb_)
        | ((with_reducible apply wpL_nilCheck); rfl; rfl)
        | ((with_reducible apply wpL_move); rfl; rfl)
        | ((with_reducible apply wpL_assign); rfl; rfl)
        | ((with_reducible apply wpL_pick); rfl; rfl; rfl)
        | ((with_reducible apply wpL_not); rfl; rfl)
        | ((with_reducible apply wpL_cmp (b := true)); rfl; rfl; rfl; (first | rfl | assumption | (simp only [cmpB, decide_eq_true_eq, decide_eq_false_iff_not, beq_iff_eq, bne_iff_ne, ne_eq, beq_eq_false_iff_ne, bne_eq_false_iff_eq, gt_iff_lt, ge_iff_le]; omega) | (simp; omega)); rfl)
        | ((with_reducible apply wpL_cmp (b := false)); rfl; rfl; rfl; (first | rfl | assumption | (simp only [cmpB, decide_eq_true_eq, decide_eq_false_iff_not, beq_iff_eq, bne_iff_ne, ne_eq, beq_eq_false_iff_ne, bne_eq_false_iff_eq, gt_iff_lt, ge_iff_le]; omega) | (simp; omega)); rfl)
        | ((with_reducible apply wpL_cmp); rfl; rfl; rfl; rfl; rfl)
        | ((with_reducible apply wpL_arith); rfl; rfl; rfl; (exact IntWalk.i64_in _ (by (try simp only [arithI]); omega)); rfl)); (try simp only [arithI, Act.put, Act.eval, List.setIfInBounds_toArray, List.set_cons_succ, List.set_cons_zero, Array.getD_eq_getD_getElem?, List.getElem?_toArray, List.getElem?_cons_succ, List.getElem?_cons_zero, Option.getD_some])))
  go_loopw [4, 5] (LenRel w c g1) (fun _ i _ => 201 - (intOf i).toNat)
  case atStart => exact ⟨0, [], bs1, none, 0, by omega, rfl, rfl, rfl, H1.out, HH.out.addNil 5 1⟩
  case round =>
    obtain ⟨k, l, bs, ao, cap, hk, hl, rfl, rfl, ha, hr⟩ := hrel
    clear HH H1
    have HH := hid hr
    have H1 := hid ha
    have HL := hid hl
    have hl2 : l.length ≤ 201 := by omega
    clear hr ha hl
    by_cases hlt : k ≤ 200
    · skip
      go_wp2_with (first
        | ((first
            | ((with_reducible apply wpL_skip); rfl; skip)
            | (go_at_call 20; (first | ((have hcall_ := hid (shaSum_any _ _ l HH.out.sl0 (by omega))); (with_reducible refine hcall_.out.mono ?_); clear hcall_) | (with_reducible refine (shaSum_any _ _ l HH.out.sl0 (by omega)).mono ?_)); rintro e_ w2_ ⟨rfl, hb_⟩; (have hq_ := HH.out.grow hb_); clear HH; have HH := hid hq_; clear hq_ hb_)
            | (go_at_call 22; (first | ((have hcall_ := hid (sumR_any _ _ l HH.out.sl0 (by omega))); (with_reducible refine hcall_.out.mono ?_); clear hcall_) | (with_reducible refine (sumR_any _ _ l HH.out.sl0 (by omega)).mono ?_)); rintro e_ w2_ ⟨rfl, hb_⟩; (have hq_ := HH.out.grow hb_); clear HH; have HH := hid hq_; clear hq_ hb_)
            | (go_at_call 33; (first | ((have hcall_ := hid (hSum w _ _ _ _ g1 l HH.out H1.out (by omega))); (with_reducible refine hcall_.out.mono ?_); clear hcall_) | (with_reducible refine (hSum w _ _ _ _ g1 l HH.out H1.out (by omega)).mono ?_)); rintro e_ w2_ ⟨rfl, hb_⟩; (have hq_ := HH.out.grow hb_); clear HH; have HH := hid hq_; clear hq_ hb_)
            | ((with_reducible apply wpL_neqA (b := false) (p := sumB l) (q := sumB l) kR24); rfl; rfl; (exact arrNe _); rfl)
            | ((with_reducible apply wpL_buildB [c] (dst := some 31)); rfl; rfl; (exact (by omega)); (exact HH.out); rfl; (intro g_ w_ hq_; clear HH; have HH := hid hq_; clear hq_))
            | ((with_reducible apply wpL_buildB [c] (dst := some 35)); rfl; rfl; (exact (by omega)); (exact HH.out); rfl; (intro g_ w_ hq_; clear HH; have HH := hid hq_; clear hq_))
            | (go_at_call 34; (have hcall_ := hid (hWrite w _ _ _ _ g1 (.slice (some ⟨g_, 0, none⟩) 1 1) l [c] HH.out H1.out HH.out.sl0 (by simp; omega))); (with_reducible refine hcall_.out.mono ?_); clear hcall_; rintro e_ w2_ ⟨rfl, bs2, hq_, ha_, -⟩; clear HH H1; have HH := hid hq_.dropRow; have H1 := hid ha_; clear hq_ ha_)
            | ((with_reducible apply wpL_appendB (dst := some 36) (l := l) (l2 := [c]) HH.out.swap HH.out.sl0); rfl; rfl; (exact (by simp; omega)); rfl; rfl; rfl; (intro ao1 cap1 w_ hq_; clear HH; have HH := hid hq_.dropSnd; clear hq_))
            | ((with_reducible apply wpL_nilCheck); rfl; rfl)
            | ((with_reducible apply wpL_move); rfl; rfl)
            | ((with_reducible apply wpL_assign); rfl; rfl)
            | ((with_reducible apply wpL_pick); rfl; rfl; rfl)
            | ((with_reducible apply wpL_not); rfl; rfl)
            | ((with_reducible apply wpL_cmp (b := true)); rfl; rfl; rfl; (first | rfl | assumption | (simp only [cmpB, decide_eq_true_eq, decide_eq_false_iff_not, beq_iff_eq, bne_iff_ne, ne_eq, beq_eq_false_iff_ne, bne_eq_false_iff_eq, gt_iff_lt, ge_iff_le]; omega) | (simp; omega)); rfl)
            | ((with_reducible apply wpL_cmp (b := false)); rfl; rfl; rfl; (first | rfl | assumption | (simp only [cmpB, decide_eq_true_eq, decide_eq_false_iff_not, beq_iff_eq, bne_iff_ne, ne_eq, beq_eq_false_iff_ne, bne_eq_false_iff_eq, gt_iff_lt, ge_iff_le]; omega) | (simp; omega)); rfl)
            | ((with_reducible apply wpL_cmp); rfl; rfl; rfl; rfl; rfl)
            | ((with_reducible apply wpL_arith); rfl; rfl; rfl; (exact IntWalk.i64_in _ (by (try simp only [arithI]); omega)); rfl)); (try simp only [arithI, Act.put, Act.eval, List.setIfInBounds_toArray, List.set_cons_succ, List.set_cons_zero, Array.getD_eq_getD_getElem?, List.getElem?_toArray, List.getElem?_cons_succ, List.getElem?_cons_zero, Option.getD_some])))
      go_roundw
      case rel => exact ⟨k + 1, l ++ [c], bs2, _, _, by omega, by rw [List.length_append, HL.out]; rfl, by go_num, rfl, H1.out, HH.out⟩
      case measure => simp [intOf]; omega
    · skip
      go_wp2_with (first
        | ((first
            | ((with_reducible apply wpL_skip); rfl; skip)
            | ((with_reducible apply wpL_nilCheck); rfl; rfl)
            | ((with_reducible apply wpL_move); rfl; rfl)
            | ((with_reducible apply wpL_assign); rfl; rfl)
            | ((with_reducible apply wpL_pick); rfl; rfl; rfl)
            | ((with_reducible apply wpL_not); rfl; rfl)
            | ((with_reducible apply wpL_cmp (b := true)); rfl; rfl; rfl; (first | rfl | assumption | (simp only [cmpB, decide_eq_true_eq, decide_eq_false_iff_not, beq_iff_eq, bne_iff_ne, ne_eq, beq_eq_false_iff_ne, bne_eq_false_iff_eq, gt_iff_lt, ge_iff_le]; omega) | (simp; omega)); rfl)
            | ((with_reducible apply wpL_cmp (b := false)); rfl; rfl; rfl; (first | rfl | assumption | (simp only [cmpB, decide_eq_true_eq, decide_eq_false_iff_not, beq_iff_eq, bne_iff_ne, ne_eq, beq_eq_false_iff_ne, bne_eq_false_iff_eq, gt_iff_lt, ge_iff_le]; omega) | (simp; omega)); rfl)
            | ((with_reducible apply wpL_cmp); rfl; rfl; rfl; rfl; rfl)
            | ((with_reducible apply wpL_arith); rfl; rfl; rfl; (exact IntWalk.i64_in _ (by (try simp only [arithI]); omega)); rfl)); (try simp only [arithI, Act.put, Act.eval, List.setIfInBounds_toArray, List.set_cons_succ, List.set_cons_zero, Array.getD_eq_getD_getElem?, List.getElem?_toArray, List.getElem?_cons_succ, List.getElem?_cons_zero, Option.getD_some])))
      go_ret
      exact RetB.mk rfl HH.out.below
/-- A slice of slices of bytes that is read. -/
def Pcs (w : World) (v : Value) (ls : List (List UInt8)) : Prop :=
  ∃ cs, Sl w v 1 ls.length cs ∧ ∀ i, i < ls.length → ∃ u, cs[i]? = some u ∧ Byts w u (ls.getD i [])
section
variable {P : Program} {ops : Array Oper} {rest : List Oper} {a : Act} {dst : Option Tmp} {ty : TypeId} {pos : String} {after : Array Edge} {guard : Option (Nat × Bool)} {w w0 : World} {S : List Nat} {bs : List (Nat × Obj)} {rows : List Row} {Q : Exit → Act → World → Prop}
/-- A byte of the first row is written. -/
theorem wpL_storeRowB {t : TypeId} {b : UInt8} {j : Nat} {ad : Addr} {cap : Nat} {l : List UInt8} {x y : Operand} (hi : (P.info? t).map (·.size) = some 1) (hH : Holds w0 S bs (rowB (some ad) cap l :: rows) w) (hx : a.eval x = .pointer (some (ad.add j))) (hy : a.eval y = byt b) (hj : j < l.length)
    (hg : Region.wanted { dst := dst, op := .store t x y, type := ty, pos := pos, after := after, guard := guard } (yielded ops a.tmps) = true)
    (h : ∀ l' w', l'.length = l.length → l' = l.set j b → Holds w0 S bs (rowB (some ad) cap l' :: rows) w' → wpList P ops Q rest (a.put dst undef) w') :
    wpList P ops Q ({ dst := dst, op := .store t x y, type := ty, pos := pos, after := after, guard := guard } :: rest) a w := by
  have hown := hH.own0
  rcases hown.2 with ⟨hv, _⟩ | ⟨g, cap', cur, hv, hb, hgc, hnc, hm, hs, htake⟩
  · simp at hv
  · simp only [Value.slice.injEq, Option.some.injEq, true_and] at hv
    obtain ⟨rfl, rfl⟩ := hv
    have hadd : (⟨g, 0, none⟩ : Addr).add j = ⟨g, j, none⟩ := by unfold Addr.add; split <;> simp_all
    have hcur : j < cur.size := by omega
    have hst := run_storeCells_at P g j 5 [byt b] 0 cur w hgc (by simp; omega) (by intro u hu; simp at hu; subst hu; rfl)
    simp only [Nat.add_zero, List.length_singleton] at hst
    have hgr : w.grownBy (w.setRow g (cur.toList.take j ++ [byt b] ++ cur.toList.drop (j + 1)).toArray) (some g) :=
      ⟨rfl, rfl, rfl, by simp, fun k _ hk => setRow_other w g k _ (fun e => hk (by rw [e]))⟩
    have hrow : (w.setRow g (cur.toList.take j ++ [byt b] ++ cur.toList.drop (j + 1)).toArray).ownsRow w0.heap.size 5 1 (.slice (some ⟨g, 0, none⟩) l.length cap) l.length ((l.set j b).map byt) := by
      refine ⟨by simp, .inr ⟨g, cap, _, rfl, hb, setRow_heap w g cur _ 5 (0, 0) hgc, hnc, hm, ?_, ?_⟩⟩
      · simp; omega
      · have e : cur.toList.take j ++ [byt b] ++ cur.toList.drop (j + 1) = cur.toList.set j (byt b) := by
          rw [List.set_eq_take_append_cons_drop, if_pos (by simpa using hcur)]; simp
        rw [e, List.toList_toArray, List.take_set, htake, List.map_set]
    have h2 := h (l.set j b) _ (by simp) rfl (by
      have := hH.grownRow hgr (.inl rfl) hrow
      simpa [rowB] using this)
    refine wpList_exskip hg ?_ h2
    have hone : (byt b).cells.toList = [byt b] := rfl
    have hsz : (byt b).cells.size = 1 := rfl
    simp only [execOp, hx, hy, hadd, Instr.storeAt, Instr.sureAddr, storeVar, Sem.run_bind, Sem.run_pure, Result.andThen_ok, run_sizeOf hi, hsz, ne_eq, not_true_eq_false, if_false]
    rw [hone, hst]
    simp [Result.andThen]
theorem wpL_notB {t : TypeId} {b : UInt8} {x : Operand} (hx : a.eval x = byt b)
    (hg : Region.wanted { dst := dst, op := .unOp .xor t x, type := ty, pos := pos, after := after, guard := guard } (yielded ops a.tmps) = true)
    (h : ∀ b', wpList P ops Q rest (a.put dst (byt b')) w) : wpList P ops Q ({ dst := dst, op := .unOp .xor t x, type := ty, pos := pos, after := after, guard := guard } :: rest) a w := by
  have key : ∃ b', (Op.unary .xor (byt b)).run P w = .ok (byt b') w := by
    refine ⟨UInt8.ofNat (BitVec.ofInt IntKind.u8.bits (if IntKind.u8.signed then -1 else IntKind.u8.max) ^^^ BitVec.ofInt IntKind.u8.bits (b.toNat : Int)).toNat, ?_⟩
    show (Op.intBits .xor .u8 (if IntKind.u8.signed then -1 else IntKind.u8.max) (b.toNat : Int)).run P w = _
    simp only [Op.intBits, Sem.run_pure]
    unfold byt
    rw [UInt8.toNat_ofNat', IntKind.wrap_u8]
    congr 2
  obtain ⟨b', hb'⟩ := key
  exact wpList_ex hg (by simp only [execOp, hx, Sem.run_bind, hb', Result.andThen_ok, Sem.run_pure]) (h b')
end
def InvRel (w : World) (bs : List (Nat × Obj)) (n cap : Nat) (ao : Option Addr) (rows : List Row) (i : Value) (wr : World) : Prop :=
  ∃ (k : Nat) (p : List UInt8), k ≤ n ∧ p.length = n ∧ i = .int .i64 k ∧ Holds w [] bs (rowB ao cap p :: rows) wr
def WrRel (w : World) (n : Nat) (g : Nat) (av iv : Value) (wr : World) : Prop :=
  ∃ (k : Nat) (l : List UInt8) (bs : List (Nat × Obj)) (ao : Option Addr) (cap : Nat), k ≤ n ∧ l.length ≤ 500 * k ∧ iv = .int .i64 k ∧ av = .slice ao l.length cap ∧ HashAt bs g l ∧ Holds w [] bs [rowB ao cap l] wr
set_option maxRecDepth 100000 in
set_option maxHeartbeats 4000000 in
theorem law_write (w : World) (v : Value) (ls : List (List UInt8)) (hl : Pcs w v ls) : Calls Try.prog 8 #[v] w (RetB w true) := by
  obtain ⟨cs, hsl, hcs⟩ := hl
  obtain ⟨ao, cap, rfl, hc⟩ := hsl.shape
  obtain ⟨n, hn12⟩ : ∃ n, min ls.length 12 = n := ⟨_, rfl⟩
  have hnl : n ≤ ls.length := by omega
  have hn13 : n ≤ 12 := by omega
  have HS := hid hsl
  have HCS := hid hcs
  have H12 := hid hn12
  clear hsl hcs hn12
  have HH := hid (Holds.init w)
  go_enter Try.func8, Try.ntmps8
  go_wp2_with (first
    | ((first
        | ((with_reducible apply wpL_skip); rfl; skip)
        | ((with_reducible apply wpL_min (r := (n : Int))); rfl; rfl; (exact (by have := H12.out; split <;> omega)); rfl)
        | ((with_reducible apply wpL_sliceTo (j := n) kE62); rfl; rfl; rfl; (exact (by omega)); rfl)
        | (go_at_call 32; (have hcall_ := hid (hNew w _ _ _ _ HH.out)); (with_reducible refine hcall_.out.mono ?_); clear hcall_; rintro e_ w2_ ⟨g1, bs1, rfl, hq_, ha_, -⟩; clear HH; have HH := hid hq_; have H1 := hid ha_; clear hq_ ha_)
        | (go_at_call 39; (first | ((have hcall_ := hid (hLen0 w _ _ _ _ g1 HH.out H1.out)); (with_reducible refine hcall_.out.mono ?_); clear hcall_) | (with_reducible refine (hLen0 w _ _ _ _ g1 HH.out H1.out).mono ?_)); rintro e_ w2_ ⟨rfl, hb_⟩; (have hq_ := HH.out.grow hb_); clear HH; have HH := hid hq_; clear hq_ hb_)
        | (go_at_call 33; (first | ((have hcall_ := hid (hSum w _ _ _ _ g1 [] HH.out H1.out (by simp))); (with_reducible refine hcall_.out.mono ?_); clear hcall_) | (with_reducible refine (hSum w _ _ _ _ g1 [] HH.out H1.out (by simp)).mono ?_)); rintro e_ w2_ ⟨rfl, hb_⟩; (have hq_ := HH.out.grow hb_); clear HH; have HH := hid hq_; clear hq_ hb_)
        | (go_at_call 22; (first | ((have hcall_ := hid (sumR_any _ (.slice none 0 0) [] (Sl.nil _ _) (by simp))); (with_reducible refine hcall_.out.mono ?_); clear hcall_) | (with_reducible refine (sumR_any _ (.slice none 0 0) [] (Sl.nil _ _) (by simp)).mono ?_)); rintro e_ w2_ ⟨rfl, hb_⟩; (have hq_ := HH.out.grow hb_); clear HH; have HH := hid hq_; clear hq_ hb_)
        | ((with_reducible apply wpL_neqA (b := false) (p := sumB []) (q := sumB []) kR24); rfl; rfl; (exact arrNe _); rfl)
        | ((with_reducible apply wpL_nilCheck); rfl; rfl)
        | ((with_reducible apply wpL_load1 (t := 5) kO5 HH.out); rfl; (first | exact .here | exact .there .here | exact .there (.there .here) | exact .there (.there (.there .here)) | exact .there (.there (.there (.there .here))) | exact .there (.there (.there (.there (.there .here)))) | exact .there (.there (.there (.there (.there (.there .here))))) | exact .there (.there (.there (.there (.there (.there (.there .here))))))); rfl; rfl)
        | ((with_reducible apply wpL_load1 (t := 22) kO22 HH.out); rfl; (first | exact .here | exact .there .here | exact .there (.there .here) | exact .there (.there (.there .here)) | exact .there (.there (.there (.there .here))) | exact .there (.there (.there (.there (.there .here)))) | exact .there (.there (.there (.there (.there (.there .here))))) | exact .there (.there (.there (.there (.there (.there (.there .here))))))); rfl; rfl)
        | ((with_reducible apply wpL_len (t := 22) Try.underlying22); rfl; rfl)
        | ((with_reducible apply wpL_len (t := 62) Try.underlying62); rfl; rfl)
        | ((with_reducible apply wpL_store1 (t := 5)); rfl; rfl; rfl; (exact kS5); (exact HH.out); (first | exact .here | exact .there .here | exact .there (.there .here) | exact .there (.there (.there .here)) | exact .there (.there (.there (.there .here))) | exact .there (.there (.there (.there (.there .here)))) | exact .there (.there (.there (.there (.there (.there .here))))) | exact .there (.there (.there (.there (.there (.there (.there .here))))))); rfl; (first | exact Nat.le_of_ble_eq_true rfl | (simp; done) | omega); rfl; (intro w_ hq_; (try simp only [List.set_cons_zero, List.set_cons_succ] at hq_); clear HH; have HH := hid hq_; clear hq_))
        | ((with_reducible apply wpL_move); rfl; rfl)
        | ((with_reducible apply wpL_assign); rfl; rfl)
        | ((with_reducible apply wpL_pick); rfl; rfl; rfl)
        | ((with_reducible apply wpL_not); rfl; rfl)
        | ((with_reducible apply wpL_cmp (b := true)); rfl; rfl; rfl; (first | rfl | assumption | (simp only [cmpB, decide_eq_true_eq, decide_eq_false_iff_not, beq_iff_eq, bne_iff_ne, ne_eq, beq_eq_false_iff_ne, bne_eq_false_iff_eq, gt_iff_lt, ge_iff_le]; omega) | (simp; omega)); rfl)
        | ((with_reducible apply wpL_cmp (b := false)); rfl; rfl; rfl; (first | rfl | assumption | (simp only [cmpB, decide_eq_true_eq, decide_eq_false_iff_not, beq_iff_eq, bne_iff_ne, ne_eq, beq_eq_false_iff_ne, bne_eq_false_iff_eq, gt_iff_lt, ge_iff_le]; omega) | (simp; omega)); rfl)
        | ((with_reducible apply wpL_cmp); rfl; rfl; rfl; rfl; rfl)
        | ((with_reducible apply wpL_arith); rfl; rfl; rfl; (exact IntWalk.i64_in _ (by (try simp only [arithI]); omega)); rfl)); (try simp only [arithI, Act.put, Act.eval, List.setIfInBounds_toArray, List.set_cons_succ, List.set_cons_zero, Array.getD_eq_getD_getElem?, List.getElem?_toArray, List.getElem?_cons_succ, List.getElem?_cons_zero, Option.getD_some])))
  go_loopw [4, 5] (WrRel w n g1) (fun _ i _ => n - (intOf i).toNat)
  case atStart => exact ⟨0, [], bs1, none, 0, by omega, by simp, rfl, rfl, H1.out, HH.out.addNil 5 1⟩
  case round =>
    obtain ⟨k, l, bs, ao1, cap1, hk, hl, rfl, rfl, ha, hr⟩ := hrel
    clear HH H1
    have HH := hid hr
    have H1 := hid ha
    clear hr ha
    by_cases hlt : k < n
    · obtain ⟨u, hu, hbu⟩ := HCS.out k (by omega)
      obtain ⟨au, cu, rfl, _⟩ := hbu.shape
      generalize ls.getD k [] = p0 at *
      have HU := hid hu
      have HBU := hid hbu
      have LC := cutB_len p0
      clear hu hbu
      obtain ⟨x, hx⟩ : ∃ x, cutB p0 = x := ⟨_, rfl⟩
      have HX := hid hx
      rw [hx] at LC
      clear hx
      have N0 := hid (show ([] : List UInt8) ++ x = x from rfl)
      obtain ⟨lx, hlx⟩ : ∃ lx, l ++ x = lx := ⟨_, rfl⟩
      have HLX := hid hlx
      have hlxn : lx.length = l.length + x.length := by rw [← hlx, List.length_append]
      have hlx5 : lx.length ≤ 500 * (k + 1) := by omega
      have HLN := hid hlxn
      clear hlx hlxn
      obtain ⟨ad, cap', e⟩ := HS.out.some (by omega)
      cases e
      go_wp2_with (first
        | ((first
            | ((with_reducible apply wpL_skip); rfl; skip)
            | ((with_reducible apply wpL_buildB [] (dst := some 33)); rfl; rfl; (exact (by omega)); (exact HH.out); rfl; (intro g_ w_ hq_; clear HH; have HH := hid hq_; clear hq_))
            | ((with_reducible apply wpL_idxB (j := k) kE62); rfl; rfl; rfl; (exact hlt); rfl)
            | ((with_reducible apply wpL_loadAt (dst := some 37) (v := .slice au p0.length cu) kO22); (have hc_ := (HH.out.sl HS.out).cell k (.slice au p0.length cu) HU.out; exact hc_); rfl; rfl)
            | (go_at_call 19; (with_reducible refine (cut_any _ _ _ p0 HBU.out).mono ?_); rw [HX.out]; rintro e_ w2_ ⟨ao2, cap2, rfl, hc1_, hb_⟩; (have hq_ := HH.out.grow hb_); clear HH; have HH := hid hq_; have XC := hid hc1_; clear hq_ hb_ hc1_)
            | ((with_reducible apply wpL_appendB (dst := some 39) (l := []) (l2 := x) HH.out (HH.out.sl XC.out)); rfl; rfl; (exact (by simp; omega)); rfl; rfl; rfl; (rw [N0.out]; intro aop capp w_ hq_; clear HH; have HH := hid hq_; clear hq_))
            | ((with_reducible apply wpL_appendB (dst := some 42) (l := l) (l2 := x) HH.out.swap HH.out.sl0); rfl; rfl; (exact (by omega)); rfl; rfl; rfl; (rw [HLX.out]; intro aol capl w_ hq_; clear HH; have HH := hid hq_.swap; clear hq_))
            | (go_at_call 34; (have hcall_ := hid (hWrite w _ _ _ _ g1 _ l x HH.out H1.out HH.out.sl0 (by omega))); (with_reducible refine hcall_.out.mono ?_); clear hcall_; rw [HLX.out]; rintro e_ w2_ ⟨rfl, bs2, hq_, ha_, -⟩; clear HH H1; have HH := hid hq_; have H1 := hid ha_; clear hq_ ha_)
            | ((with_reducible apply wpL_nilCheck); rfl; rfl)
            | ((with_reducible apply wpL_load1 (t := 5) kO5 HH.out); rfl; (first | exact .here | exact .there .here | exact .there (.there .here) | exact .there (.there (.there .here)) | exact .there (.there (.there (.there .here))) | exact .there (.there (.there (.there (.there .here)))) | exact .there (.there (.there (.there (.there (.there .here))))) | exact .there (.there (.there (.there (.there (.there (.there .here))))))); rfl; rfl)
            | ((with_reducible apply wpL_load1 (t := 22) kO22 HH.out); rfl; (first | exact .here | exact .there .here | exact .there (.there .here) | exact .there (.there (.there .here)) | exact .there (.there (.there (.there .here))) | exact .there (.there (.there (.there (.there .here)))) | exact .there (.there (.there (.there (.there (.there .here))))) | exact .there (.there (.there (.there (.there (.there (.there .here))))))); rfl; rfl)
            | ((with_reducible apply wpL_len (t := 22) Try.underlying22); rfl; rfl)
            | ((with_reducible apply wpL_len (t := 62) Try.underlying62); rfl; rfl)
            | ((with_reducible apply wpL_store1 (t := 5)); rfl; rfl; rfl; (exact kS5); (exact HH.out); (first | exact .here | exact .there .here | exact .there (.there .here) | exact .there (.there (.there .here)) | exact .there (.there (.there (.there .here))) | exact .there (.there (.there (.there (.there .here)))) | exact .there (.there (.there (.there (.there (.there .here))))) | exact .there (.there (.there (.there (.there (.there (.there .here))))))); rfl; (first | exact Nat.le_of_ble_eq_true rfl | (simp; done) | omega); rfl; (intro w_ hq_; (try simp only [List.set_cons_zero, List.set_cons_succ] at hq_); clear HH; have HH := hid hq_; clear hq_))
            | ((with_reducible apply wpL_move); rfl; rfl)
            | ((with_reducible apply wpL_assign); rfl; rfl)
            | ((with_reducible apply wpL_pick); rfl; rfl; rfl)
            | ((with_reducible apply wpL_not); rfl; rfl)
            | ((with_reducible apply wpL_cmp (b := true)); rfl; rfl; rfl; (first | rfl | assumption | (simp only [cmpB, decide_eq_true_eq, decide_eq_false_iff_not, beq_iff_eq, bne_iff_ne, ne_eq, beq_eq_false_iff_ne, bne_eq_false_iff_eq, gt_iff_lt, ge_iff_le]; omega) | (simp; omega)); rfl)
            | ((with_reducible apply wpL_cmp (b := false)); rfl; rfl; rfl; (first | rfl | assumption | (simp only [cmpB, decide_eq_true_eq, decide_eq_false_iff_not, beq_iff_eq, bne_iff_ne, ne_eq, beq_eq_false_iff_ne, bne_eq_false_iff_eq, gt_iff_lt, ge_iff_le]; omega) | (simp; omega)); rfl)
            | ((with_reducible apply wpL_cmp); rfl; rfl; rfl; rfl; rfl)
            | ((with_reducible apply wpL_arith); rfl; rfl; rfl; (exact IntWalk.i64_in _ (by (try simp only [arithI]); omega)); rfl)); (try simp only [arithI, Act.put, Act.eval, List.setIfInBounds_toArray, List.set_cons_succ, List.set_cons_zero, Array.getD_eq_getD_getElem?, List.getElem?_toArray, List.getElem?_cons_succ, List.getElem?_cons_zero, Option.getD_some])))
      obtain ⟨wo, rfl⟩ : ∃ wo : World, wo = wr := ⟨_, rfl⟩
      go_loopw [7] (InvRel w bs2 x.length capp aop [rowB aol capl lx]) (fun i _ => x.length - (intOf i).toNat)
      case atStart => exact ⟨0, x, by omega, rfl, rfl, HH.out⟩
      case round =>
        obtain ⟨m, p, hm, hp, rfl, hr⟩ := hrel
        clear HH
        have HH := hid hr
        have HP := hid hp
        clear hr
        by_cases hml : m < x.length
        · have hmp : m < p.length := by omega
          clear hp
          obtain ⟨adp, capq, e⟩ := HH.out.sl0.some (by omega)
          cases e
          go_wp2_with (first
            | ((first
                | ((with_reducible apply wpL_skip); rfl; skip)
                | ((with_reducible apply wpL_idxB (j := m) kE22); rfl; rfl; rfl; (exact (by omega)); rfl)
                | ((with_reducible apply wpL_loadAt (dst := some 58) (v := byt (p.getD m 0)) kO5); (have hc_ := HH.out.sl0.cell m (byt (p.getD m 0)) (by simp [hmp]); exact hc_); rfl; rfl)
                | ((with_reducible apply wpL_notB (b := p.getD m 0)); rfl; rfl; (intro b'))
                | ((with_reducible apply wpL_storeRowB (b := b') (j := m) (l := p) kS5 HH.out); rfl; rfl; (exact hmp); rfl; (intro p' w_ hpl_ hpe_ hq_; clear HH; have HH := hid hq_; have HPL := hid hpl_; clear hq_ hpl_ hpe_))
                | ((with_reducible apply wpL_nilCheck); rfl; rfl)
                | ((with_reducible apply wpL_load1 (t := 5) kO5 HH.out); rfl; (first | exact .here | exact .there .here | exact .there (.there .here) | exact .there (.there (.there .here)) | exact .there (.there (.there (.there .here))) | exact .there (.there (.there (.there (.there .here)))) | exact .there (.there (.there (.there (.there (.there .here))))) | exact .there (.there (.there (.there (.there (.there (.there .here))))))); rfl; rfl)
                | ((with_reducible apply wpL_load1 (t := 22) kO22 HH.out); rfl; (first | exact .here | exact .there .here | exact .there (.there .here) | exact .there (.there (.there .here)) | exact .there (.there (.there (.there .here))) | exact .there (.there (.there (.there (.there .here)))) | exact .there (.there (.there (.there (.there (.there .here))))) | exact .there (.there (.there (.there (.there (.there (.there .here))))))); rfl; rfl)
                | ((with_reducible apply wpL_len (t := 22) Try.underlying22); rfl; rfl)
                | ((with_reducible apply wpL_len (t := 62) Try.underlying62); rfl; rfl)
                | ((with_reducible apply wpL_store1 (t := 5)); rfl; rfl; rfl; (exact kS5); (exact HH.out); (first | exact .here | exact .there .here | exact .there (.there .here) | exact .there (.there (.there .here)) | exact .there (.there (.there (.there .here))) | exact .there (.there (.there (.there (.there .here)))) | exact .there (.there (.there (.there (.there (.there .here))))) | exact .there (.there (.there (.there (.there (.there (.there .here))))))); rfl; (first | exact Nat.le_of_ble_eq_true rfl | (simp; done) | omega); rfl; (intro w_ hq_; (try simp only [List.set_cons_zero, List.set_cons_succ] at hq_); clear HH; have HH := hid hq_; clear hq_))
                | ((with_reducible apply wpL_move); rfl; rfl)
                | ((with_reducible apply wpL_assign); rfl; rfl)
                | ((with_reducible apply wpL_pick); rfl; rfl; rfl)
                | ((with_reducible apply wpL_not); rfl; rfl)
                | ((with_reducible apply wpL_cmp (b := true)); rfl; rfl; rfl; (first | rfl | assumption | (simp only [cmpB, decide_eq_true_eq, decide_eq_false_iff_not, beq_iff_eq, bne_iff_ne, ne_eq, beq_eq_false_iff_ne, bne_eq_false_iff_eq, gt_iff_lt, ge_iff_le]; omega) | (simp; omega)); rfl)
                | ((with_reducible apply wpL_cmp (b := false)); rfl; rfl; rfl; (first | rfl | assumption | (simp only [cmpB, decide_eq_true_eq, decide_eq_false_iff_not, beq_iff_eq, bne_iff_ne, ne_eq, beq_eq_false_iff_ne, bne_eq_false_iff_eq, gt_iff_lt, ge_iff_le]; omega) | (simp; omega)); rfl)
                | ((with_reducible apply wpL_cmp); rfl; rfl; rfl; rfl; rfl)
                | ((with_reducible apply wpL_arith); rfl; rfl; rfl; (exact IntWalk.i64_in _ (by (try simp only [arithI]); omega)); rfl)); (try simp only [arithI, Act.put, Act.eval, List.setIfInBounds_toArray, List.set_cons_succ, List.set_cons_zero, Array.getD_eq_getD_getElem?, List.getElem?_toArray, List.getElem?_cons_succ, List.getElem?_cons_zero, Option.getD_some])))
          go_roundw
          case rel => exact ⟨m + 1, p', by omega, by rw [HPL.out, HP.out], by go_num, HH.out⟩
          case measure => simp [intOf]; omega
        · have HH2 := hid HH.out.dropRow
          clear HH
          have HH := HH2
          clear HH2
          go_wp2_with (first
            | ((first
                | ((with_reducible apply wpL_skip); rfl; skip)
                | (go_at_call 39; (have hcall_ := hid (hLen w _ _ _ _ g1 lx HH.out H1.out)); (with_reducible refine hcall_.out.mono ?_); clear hcall_; rintro e_ w2_ ⟨rfl, hb_⟩; (have hq_ := HH.out.grow hb_); clear HH; have HH := hid hq_; clear hq_ hb_)
                | (go_at_call 33; (first | ((have hcall_ := hid (hSum w _ _ _ _ g1 lx HH.out H1.out (by omega))); (with_reducible refine hcall_.out.mono ?_); clear hcall_) | (with_reducible refine (hSum w _ _ _ _ g1 lx HH.out H1.out (by omega)).mono ?_)); rintro e_ w2_ ⟨rfl, hb_⟩; (have hq_ := HH.out.grow hb_); clear HH; have HH := hid hq_; clear hq_ hb_)
                | (go_at_call 22; (first | ((have hcall_ := hid (sumR_any _ _ lx HH.out.sl0 (by omega))); (with_reducible refine hcall_.out.mono ?_); clear hcall_) | (with_reducible refine (sumR_any _ _ lx HH.out.sl0 (by omega)).mono ?_)); rintro e_ w2_ ⟨rfl, hb_⟩; (have hq_ := HH.out.grow hb_); clear HH; have HH := hid hq_; clear hq_ hb_)
                | ((with_reducible apply wpL_neqA (b := false) (p := sumB lx) (q := sumB lx) kR24); rfl; rfl; (exact arrNe _); rfl)
                | ((with_reducible apply wpL_neqA (b := false) (p := sumB lx) (q := sumB lx) kR25); rfl; rfl; (exact arrNe _); rfl)
                | ((with_reducible apply wpL_nilCheck); rfl; rfl)
                | ((with_reducible apply wpL_load1 (t := 5) kO5 HH.out); rfl; (first | exact .here | exact .there .here | exact .there (.there .here) | exact .there (.there (.there .here)) | exact .there (.there (.there (.there .here))) | exact .there (.there (.there (.there (.there .here)))) | exact .there (.there (.there (.there (.there (.there .here))))) | exact .there (.there (.there (.there (.there (.there (.there .here))))))); rfl; rfl)
                | ((with_reducible apply wpL_load1 (t := 22) kO22 HH.out); rfl; (first | exact .here | exact .there .here | exact .there (.there .here) | exact .there (.there (.there .here)) | exact .there (.there (.there (.there .here))) | exact .there (.there (.there (.there (.there .here)))) | exact .there (.there (.there (.there (.there (.there .here))))) | exact .there (.there (.there (.there (.there (.there (.there .here))))))); rfl; rfl)
                | ((with_reducible apply wpL_len (t := 22) Try.underlying22); rfl; rfl)
                | ((with_reducible apply wpL_len (t := 62) Try.underlying62); rfl; rfl)
                | ((with_reducible apply wpL_store1 (t := 5)); rfl; rfl; rfl; (exact kS5); (exact HH.out); (first | exact .here | exact .there .here | exact .there (.there .here) | exact .there (.there (.there .here)) | exact .there (.there (.there (.there .here))) | exact .there (.there (.there (.there (.there .here)))) | exact .there (.there (.there (.there (.there (.there .here))))) | exact .there (.there (.there (.there (.there (.there (.there .here))))))); rfl; (first | exact Nat.le_of_ble_eq_true rfl | (simp; done) | omega); rfl; (intro w_ hq_; (try simp only [List.set_cons_zero, List.set_cons_succ] at hq_); clear HH; have HH := hid hq_; clear hq_))
                | ((with_reducible apply wpL_move); rfl; rfl)
                | ((with_reducible apply wpL_assign); rfl; rfl)
                | ((with_reducible apply wpL_pick); rfl; rfl; rfl)
                | ((with_reducible apply wpL_not); rfl; rfl)
                | ((with_reducible apply wpL_cmp (b := true)); rfl; rfl; rfl; (first | rfl | assumption | (simp only [cmpB, decide_eq_true_eq, decide_eq_false_iff_not, beq_iff_eq, bne_iff_ne, ne_eq, beq_eq_false_iff_ne, bne_eq_false_iff_eq, gt_iff_lt, ge_iff_le]; omega) | (simp; omega)); rfl)
                | ((with_reducible apply wpL_cmp (b := false)); rfl; rfl; rfl; (first | rfl | assumption | (simp only [cmpB, decide_eq_true_eq, decide_eq_false_iff_not, beq_iff_eq, bne_iff_ne, ne_eq, beq_eq_false_iff_ne, bne_eq_false_iff_eq, gt_iff_lt, ge_iff_le]; omega) | (simp; omega)); rfl)
                | ((with_reducible apply wpL_cmp); rfl; rfl; rfl; rfl; rfl)
                | ((with_reducible apply wpL_arith); rfl; rfl; rfl; (exact IntWalk.i64_in _ (by (try simp only [arithI]); omega)); rfl)); (try simp only [arithI, Act.put, Act.eval, List.setIfInBounds_toArray, List.set_cons_succ, List.set_cons_zero, Array.getD_eq_getD_getElem?, List.getElem?_toArray, List.getElem?_cons_succ, List.getElem?_cons_zero, Option.getD_some])))
          go_roundw
          case rel => exact ⟨k + 1, lx, bs2, _, _, by omega, hlx5, by go_num, rfl, H1.out, HH.out⟩
          case measure => simp [intOf]; omega
    · skip
      go_wp2_with (first
        | ((first
            | ((with_reducible apply wpL_skip); rfl; skip)
            | (go_at_call 21; (first | ((have hcall_ := hid (known_any _)); (with_reducible refine hcall_.out.mono ?_); clear hcall_) | (with_reducible refine (known_any _).mono ?_)); rintro e_ w2_ ⟨rfl, hb_⟩; (have hq_ := HH.out.grow hb_); clear HH; have HH := hid hq_; clear hq_ hb_)
            | ((with_reducible apply wpL_nilCheck); rfl; rfl)
            | ((with_reducible apply wpL_load1 (t := 5) kO5 HH.out); rfl; (first | exact .here | exact .there .here | exact .there (.there .here) | exact .there (.there (.there .here)) | exact .there (.there (.there (.there .here))) | exact .there (.there (.there (.there (.there .here)))) | exact .there (.there (.there (.there (.there (.there .here))))) | exact .there (.there (.there (.there (.there (.there (.there .here))))))); rfl; rfl)
            | ((with_reducible apply wpL_load1 (t := 22) kO22 HH.out); rfl; (first | exact .here | exact .there .here | exact .there (.there .here) | exact .there (.there (.there .here)) | exact .there (.there (.there (.there .here))) | exact .there (.there (.there (.there (.there .here)))) | exact .there (.there (.there (.there (.there (.there .here))))) | exact .there (.there (.there (.there (.there (.there (.there .here))))))); rfl; rfl)
            | ((with_reducible apply wpL_len (t := 22) Try.underlying22); rfl; rfl)
            | ((with_reducible apply wpL_len (t := 62) Try.underlying62); rfl; rfl)
            | ((with_reducible apply wpL_store1 (t := 5)); rfl; rfl; rfl; (exact kS5); (exact HH.out); (first | exact .here | exact .there .here | exact .there (.there .here) | exact .there (.there (.there .here)) | exact .there (.there (.there (.there .here))) | exact .there (.there (.there (.there (.there .here)))) | exact .there (.there (.there (.there (.there (.there .here))))) | exact .there (.there (.there (.there (.there (.there (.there .here))))))); rfl; (first | exact Nat.le_of_ble_eq_true rfl | (simp; done) | omega); rfl; (intro w_ hq_; (try simp only [List.set_cons_zero, List.set_cons_succ] at hq_); clear HH; have HH := hid hq_; clear hq_))
            | ((with_reducible apply wpL_move); rfl; rfl)
            | ((with_reducible apply wpL_assign); rfl; rfl)
            | ((with_reducible apply wpL_pick); rfl; rfl; rfl)
            | ((with_reducible apply wpL_not); rfl; rfl)
            | ((with_reducible apply wpL_cmp (b := true)); rfl; rfl; rfl; (first | rfl | assumption | (simp only [cmpB, decide_eq_true_eq, decide_eq_false_iff_not, beq_iff_eq, bne_iff_ne, ne_eq, beq_eq_false_iff_ne, bne_eq_false_iff_eq, gt_iff_lt, ge_iff_le]; omega) | (simp; omega)); rfl)
            | ((with_reducible apply wpL_cmp (b := false)); rfl; rfl; rfl; (first | rfl | assumption | (simp only [cmpB, decide_eq_true_eq, decide_eq_false_iff_not, beq_iff_eq, bne_iff_ne, ne_eq, beq_eq_false_iff_ne, bne_eq_false_iff_eq, gt_iff_lt, ge_iff_le]; omega) | (simp; omega)); rfl)
            | ((with_reducible apply wpL_cmp); rfl; rfl; rfl; rfl; rfl)
            | ((with_reducible apply wpL_arith); rfl; rfl; rfl; (exact IntWalk.i64_in _ (by (try simp only [arithI]); omega)); rfl)); (try simp only [arithI, Act.put, Act.eval, List.setIfInBounds_toArray, List.set_cons_succ, List.set_cons_zero, Array.getD_eq_getD_getElem?, List.getElem?_toArray, List.getElem?_cons_succ, List.getElem?_cons_zero, Option.getD_some])))
      go_ret
      exact RetB.mk rfl HH.out.below
end Go.Proofs.Ytgkfopodhikckaa
