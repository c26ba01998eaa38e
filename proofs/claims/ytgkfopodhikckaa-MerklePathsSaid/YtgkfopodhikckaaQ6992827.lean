/- Join of merkle. No condition. -/
import Derived.Test.YtgkfopodhikckaaQc8850a3
import Derived.WideKeyArr2
import Derived.ChangeSlices
import Derived.ChangeMaps4
import Derived.Carry
import Derived.Lib.UnsafeStr
import Derived.Lib.Builder
import Derived.Laws.IdiomStrings
import Derived.Laws.Small
import Derived.Lib.SlBytesConst
import Derived.Laws.CopyRow
import Derived.Test.YtgkfopodhikckaaRows
import Derived.Deep.Matrix
import Derived.ChangeMaps5
import Derived.Lib.AppendZerosOnto
import Derived.Shelf.Spec.SlicesGrow
import Derived.Lib.Bytealg
set_option linter.unusedSimpArgs false
set_option linter.unusedVariables false
/- padded of the reference. Condition: at most a million bytes. -/
namespace Go.Proofs.Ytgkfopodhikckaa
open Go.RowKit
def lenV : Value → Nat | .slice _ n _ => n | _ => 0
theorem byt_cell1 (l : List UInt8) : ∀ u ∈ l.map byt, u.oneCell' = true := by
  intro u hu; obtain ⟨x, _, rfl⟩ := List.mem_map.1 hu; rfl
theorem Byts.of {w : World} {v : Value} {n : Nat} {l : List UInt8} {cs : List Value} (h : Sl w v 1 n cs) (hn : n = l.length) (hc : cs = l.map byt) : Byts w v l := by subst hn hc; exact h
/-- A row of bytes of the call's own. -/
@[reducible] def rowB (ao : Option Addr) (cap : Nat) (l : List UInt8) : Row := ⟨.slice ao l.length cap, 5, 1, l.length, l.map byt⟩
def RetBy (w : World) (l : List UInt8) (e : Ending) (w' : World) : Prop :=
  ∃ ao cap, e = .returned (.slice ao l.length cap) ∧ w'.ownsRow w.heap.size 5 1 (.slice ao l.length cap) l.length (l.map byt) ∧ Below w.heap.size w w'
section
variable {w w0 : World} {S : List Nat} {bs : List (Nat × Obj)} {rows : List Row} {ops : Array Oper} {rest : List Oper} {a : Act} {dst : Option Tmp} {ty : TypeId} {pos : String} {after : Array Edge} {guard : Option (Nat × Bool)} {Q : Exit → Act → World → Prop} {P : Program}
theorem wpL_buildB (l : List UInt8) {parts : Array (Nat × Operand)} {n : Nat} (hn : n = l.length) (hp : (parts.toList.map fun p => (p.1, a.eval p.2)) = ((l.map byt).zipIdx 0).map fun p => (p.2, p.1)) (hb : n ≤ 1000) (hH : Holds w0 S bs rows w)
    (hg : Region.wanted { dst := dst, op := .buildSlice 22 n parts, type := ty, pos := pos, after := after, guard := guard } (yielded ops a.tmps) = true)
    (h : ∀ g w', Holds w0 S bs (rowB (some ⟨g, 0, none⟩) n l :: rows) w' → wpList Try.prog ops Q rest (a.put dst (.slice (some ⟨g, 0, none⟩) n n)) w') :
    wpList Try.prog ops Q ({ dst := dst, op := .buildSlice 22 n parts, type := ty, pos := pos, after := after, guard := guard } :: rest) a w := by
  subst hn
  refine wpList_buildSlice E22 (l.map byt) ?_ ?_ (by simp) hp hH (xs := l.map byt) ?_ hg h
  · intro v hv; obtain ⟨x, _, rfl⟩ := List.mem_map.1 hv; rfl
  · simp; omega
  · clear hp hb hg h
    induction l with
    | nil => rfl
    | cons x l ih => simp only [List.map_cons, List.flatMap_cons, ← ih]; rfl
theorem wpL_appendB {ao ax : Option Addr} {ca cx n m : Nat} {l l2 : List UInt8} (hH : Holds w0 S bs (⟨.slice ao n ca, 5, 1, n, l.map byt⟩ :: rows) w) (hx : Sl w (.slice ax m cx) 1 m (l2.map byt)) (hn : n = l.length) (hm : m = l2.length) (hb : l.length + l2.length ≤ 100000000) {s y : Operand} (hs : a.eval s = .slice ao n ca) (hy : a.eval y = .slice ax m cx)
    (hg : Region.wanted { dst := dst, op := .call { callee := .builtin .append, args := #[s, y], argTypes := #[22, 22] }, type := ty, pos := pos, after := after, guard := guard } (yielded ops a.tmps) = true)
    (h : ∀ ao cap w', Holds w0 S bs (rowB ao cap (l ++ l2) :: rows) w' → wpList Try.prog ops Q rest (a.put dst (.slice ao (l ++ l2).length cap)) w') :
    wpList Try.prog ops Q ({ dst := dst, op := .call { callee := .builtin .append, args := #[s, y], argTypes := #[22, 22] }, type := ty, pos := pos, after := after, guard := guard } :: rest) a w := by
  subst hn hm
  refine wpList_append E22 hH hx (byt_cell1 _) (by omega) hs hy hg fun ao cap w' h' => ?_
  have := h ao cap w' (by simpa only [rowB, List.length_append, List.map_append] using h')
  rwa [List.length_append] at this
/-- A word of 64 bits, shifted. -/
theorem wpL_shrN {t yt : TypeId} {x y : Operand} {p q : Int} {m k : Nat} (hx : a.eval x = .int .u64 p) (hy : a.eval y = .int .i64 q) (hp : p = (m : Int)) (hq : q = (k : Int)) (hk : k < 64)
    (hg : Region.wanted { dst := dst, op := .binOp .shr t x y yt, type := ty, pos := pos, after := after, guard := guard } (yielded ops a.tmps) = true)
    (h : wpList P ops Q rest (a.put dst (.int .u64 ((m / 2 ^ k : Nat) : Int))) w) : wpList P ops Q ({ dst := dst, op := .binOp .shr t x y yt, type := ty, pos := pos, after := after, guard := guard } :: rest) a w := by
  subst hp hq
  refine wpList_ex hg ?_ h
  have he : ∀ u v, eqGuard .shr t x y u v = pure () := fun _ _ => rfl
  have hr : (binOp .shr t (.int .u64 (m : Int)) (.int .i64 (k : Int))).run P w = .ok (.int .u64 ((m / 2 ^ k : Nat) : Int)) w := by
    show (Op.shift .shr .u64 (m : Int) .i64 (k : Int)).run P w = _
    have h0 : ¬ (k : Int) < 0 := by omega
    have h1 : min (k : Int).toNat IntKind.u64.bits = k := by
      have : IntKind.u64.bits = 64 := rfl
      omega
    simp only [Op.shift, h0, if_false, h1, Sem.run_pure]
    congr 2
    rw [Int.fdiv_eq_ediv_of_nonneg _ (by exact_mod_cast Nat.zero_le _)]
    norm_cast
  simp only [execOp, hx, hy, Sem.run_bind, he, Sem.run_pure, Result.andThen_ok, hr]
theorem wpL_toB {s d : TypeId} {z : TypeDesc} {x : Operand} {k : IntKind} {p : Int} {m : Nat} (hs : P.underlying s = some z) (hd : P.underlying d = some (.int .u8)) (hx : a.eval x = .int k p) (hp : p = (m : Int))
    (hg : Region.wanted { dst := dst, op := .convert s d x, type := ty, pos := pos, after := after, guard := guard } (yielded ops a.tmps) = true)
    (h : wpList P ops Q rest (a.put dst (byt (UInt8.ofNat m))) w) : wpList P ops Q ({ dst := dst, op := .convert s d x, type := ty, pos := pos, after := after, guard := guard } :: rest) a w := by
  subst hp
  refine wpList_ex hg ?_ h
  have hr : (convert s d (.int k (m : Int))).run P w = .ok (byt (UInt8.ofNat m)) w := by
    simp only [convert, Sem.run_bind, run_underlying hs, run_underlying hd, Result.andThen_ok, Conv.intToInt, Sem.run_pure]
    unfold byt
    rw [UInt8.toNat_ofNat', IntKind.wrap_u8]
    congr 2
  simp only [execOp, hx, Sem.run_bind, Sem.run_pure, Result.andThen_ok, hr]
end
def padZ (n : Nat) : Nat := (119 - n % 64) % 64
/-- Byte i of the count of bits. -/
def lenByte (n i : Nat) : UInt8 := UInt8.ofNat (n * 8 / 2 ^ (8 * i))
def lenBs (n j : Nat) : List UInt8 := (List.range j).map fun i => lenByte n (7 - i)
def padL (n : Nat) : List UInt8 := 128 :: List.replicate (padZ n) 0 ++ lenBs n 8
theorem lenBs_succ (n j : Nat) : lenBs n (j + 1) = lenBs n j ++ [lenByte n (7 - j)] := by simp [lenBs, List.range_succ]
def PadRel1 (w : World) (l : List UInt8) (v : Value) (wr : World) : Prop :=
  ∃ k : Nat, k ≤ padZ l.length ∧ ∃ ao cap, v = .slice ao (l ++ 128 :: List.replicate k 0).length cap ∧ Holds w [] [] [rowB ao cap (l ++ 128 :: List.replicate k 0)] wr
def PadRel2 (w : World) (l : List UInt8) (n : Nat) (v i : Value) (wr : World) : Prop :=
  ∃ j : Nat, j ≤ 8 ∧ i = .int .i64 (7 - j) ∧ ∃ ao cap, v = .slice ao (l ++ lenBs n j).length cap ∧ Holds w [] [] [rowB ao cap (l ++ lenBs n j)] wr
set_option maxRecDepth 100000 in
set_option maxHeartbeats 2000000 in
theorem padded_any (w : World) (v : Value) (l : List UInt8) (hl : Byts w v l) (hn : l.length ≤ 1000000) : Calls Try.prog 58 #[v] w (RetBy w (l ++ padL l.length)) := by
  obtain ⟨ao, cap, rfl, _⟩ := hl.shape
  have HL := hid hl
  clear hl
  have HH := hid (Holds.init w)
  go_enter Try.func58, Try.ntmps58
  go_wp2_with (first
    | ((first
        | ((with_reducible apply wpL_skip); rfl; skip)
        | ((with_reducible apply wpL_buildB [] (dst := some 6)); rfl; rfl; (exact (by omega)); (exact HH.out); rfl; (intro g_ w_ hq_; clear HH; have HH := hid hq_; clear hq_))
        | ((with_reducible apply wpL_appendB (dst := some 8) (l := []) (l2 := l) HH.out (HH.out.sl HL.out)); rfl; rfl; (exact (by simp; omega)); rfl; rfl; rfl; (intro ao1 cap1 w_ hq_; clear HH; have HH := hid hq_; clear hq_))
        | ((with_reducible apply wpL_buildB [128] (dst := some 9)); rfl; rfl; (exact (by omega)); (exact HH.out); rfl; (intro g_ w_ hq_; clear HH; have HH := hid hq_; clear hq_))
        | ((with_reducible apply wpL_appendB (dst := some 10) (l := l) (l2 := [128]) HH.out.swap HH.out.sl0); rfl; rfl; (exact (by simp; omega)); rfl; rfl; rfl; (intro ao1 cap1 w_ hq_; clear HH; have HH := hid hq_.dropSnd; clear hq_))
        | ((with_reducible apply wpL_move); rfl; rfl)
        | ((with_reducible apply wpL_assign); rfl; rfl)
        | ((with_reducible apply wpL_pick); rfl; rfl; rfl)
        | ((with_reducible apply wpL_not); rfl; rfl)
        | ((with_reducible apply wpL_cmp (b := true)); rfl; rfl; rfl; (first | rfl | assumption | (simp only [cmpB, decide_eq_true_eq, decide_eq_false_iff_not, beq_iff_eq, bne_iff_ne, ne_eq, beq_eq_false_iff_ne, bne_eq_false_iff_eq, gt_iff_lt, ge_iff_le]; omega) | (simp; omega)); rfl)
        | ((with_reducible apply wpL_cmp (b := false)); rfl; rfl; rfl; (first | rfl | assumption | (simp only [cmpB, decide_eq_true_eq, decide_eq_false_iff_not, beq_iff_eq, bne_iff_ne, ne_eq, beq_eq_false_iff_ne, bne_eq_false_iff_eq, gt_iff_lt, ge_iff_le]; omega) | (simp; omega)); rfl)
        | ((with_reducible apply wpL_cmp); rfl; rfl; rfl; rfl; rfl)
        | ((with_reducible apply wpL_arith); rfl; rfl; rfl; (exact IntWalk.i64_in _ (by (try simp only [arithI]); omega)); rfl)); (try simp only [arithI, Act.put, Act.eval, List.setIfInBounds_toArray, List.set_cons_succ, List.set_cons_zero, Array.getD_eq_getD_getElem?, List.getElem?_toArray, List.getElem?_cons_succ, List.getElem?_cons_zero, Option.getD_some])))
  go_loopw [3] (PadRel1 w l) (fun v _ => l.length + 1 + padZ l.length - lenV v)
  case atStart => exact ⟨0, Nat.zero_le _, _, _, rfl, HH.out⟩
  case round =>
    obtain ⟨k, hk, ao1, cap1, rfl, hr⟩ := hrel
    clear HH
    have HH := hid hr
    clear hr
    have hlen : (l ++ 128 :: List.replicate k 0).length = l.length + 1 + k := by simp; omega
    have hz : padZ l.length = (119 - l.length % 64) % 64 := rfl
    by_cases hlt : k < padZ l.length
    · have happ : (l ++ 128 :: List.replicate k 0) ++ [0] = l ++ 128 :: List.replicate (k + 1) 0 := by rw [List.append_assoc, List.cons_append, ← List.replicate_succ']
      have HA := hid happ
      clear happ
      go_wp2_with (first
        | ((first
            | ((with_reducible apply wpL_skip); rfl; skip)
            | ((with_reducible apply wpL_len Try.underlying22); rfl; rfl)
            | ((with_reducible apply wpL_remN (m := (l ++ 128 :: List.replicate k 0).length) (n := 64)); rfl; rfl; rfl; rfl; (exact (by omega)); (exact (by omega)); (exact (by omega)); rfl)
            | ((with_reducible apply wpL_buildB [0] (dst := some 16)); rfl; rfl; (exact (by omega)); (exact HH.out); rfl; (intro g_ w_ hq_; clear HH; have HH := hid hq_; clear hq_))
            | ((with_reducible apply wpL_appendB (dst := some 17) (l := l ++ 128 :: List.replicate k 0) (l2 := [0]) HH.out.swap HH.out.sl0); rfl; rfl; (exact (by simp; omega)); rfl; rfl; rfl; (rw [HA.out]; intro ao1 cap1 w_ hq_; clear HH; have HH := hid hq_.dropSnd; clear hq_))
            | ((with_reducible apply wpL_move); rfl; rfl)
            | ((with_reducible apply wpL_assign); rfl; rfl)
            | ((with_reducible apply wpL_pick); rfl; rfl; rfl)
            | ((with_reducible apply wpL_not); rfl; rfl)
            | ((with_reducible apply wpL_cmp (b := true)); rfl; rfl; rfl; (first | rfl | assumption | (simp only [cmpB, decide_eq_true_eq, decide_eq_false_iff_not, beq_iff_eq, bne_iff_ne, ne_eq, beq_eq_false_iff_ne, bne_eq_false_iff_eq, gt_iff_lt, ge_iff_le]; omega) | (simp; omega)); rfl)
            | ((with_reducible apply wpL_cmp (b := false)); rfl; rfl; rfl; (first | rfl | assumption | (simp only [cmpB, decide_eq_true_eq, decide_eq_false_iff_not, beq_iff_eq, bne_iff_ne, ne_eq, beq_eq_false_iff_ne, bne_eq_false_iff_eq, gt_iff_lt, ge_iff_le]; omega) | (simp; omega)); rfl)
            | ((with_reducible apply wpL_cmp); rfl; rfl; rfl; rfl; rfl)
            | ((with_reducible apply wpL_arith); rfl; rfl; rfl; (exact IntWalk.i64_in _ (by (try simp only [arithI]); omega)); rfl)); (try simp only [arithI, Act.put, Act.eval, List.setIfInBounds_toArray, List.set_cons_succ, List.set_cons_zero, Array.getD_eq_getD_getElem?, List.getElem?_toArray, List.getElem?_cons_succ, List.getElem?_cons_zero, Option.getD_some])))
      go_roundw
      case rel => exact ⟨k + 1, by omega, _, _, rfl, HH.out⟩
      case measure => simp [lenV]; omega
    · have hkz : k = padZ l.length := by omega
      have HKZ := hid hkz
      clear hkz
      go_wp2_with (first
        | ((first
            | ((with_reducible apply wpL_skip); rfl; skip)
            | ((with_reducible apply wpL_len Try.underlying22); rfl; rfl)
            | ((with_reducible apply wpL_remN (m := (l ++ 128 :: List.replicate k 0).length) (n := 64)); rfl; rfl; rfl; rfl; (exact (by omega)); (exact (by omega)); (exact (by omega)); rfl)
            | ((with_reducible apply wpL_move); rfl; rfl)
            | ((with_reducible apply wpL_assign); rfl; rfl)
            | ((with_reducible apply wpL_pick); rfl; rfl; rfl)
            | ((with_reducible apply wpL_not); rfl; rfl)
            | ((with_reducible apply wpL_cmp (b := true)); rfl; rfl; rfl; (first | rfl | assumption | (simp only [cmpB, decide_eq_true_eq, decide_eq_false_iff_not, beq_iff_eq, bne_iff_ne, ne_eq, beq_eq_false_iff_ne, bne_eq_false_iff_eq, gt_iff_lt, ge_iff_le]; omega) | (simp; omega)); rfl)
            | ((with_reducible apply wpL_cmp (b := false)); rfl; rfl; rfl; (first | rfl | assumption | (simp only [cmpB, decide_eq_true_eq, decide_eq_false_iff_not, beq_iff_eq, bne_iff_ne, ne_eq, beq_eq_false_iff_ne, bne_eq_false_iff_eq, gt_iff_lt, ge_iff_le]; omega) | (simp; omega)); rfl)
            | ((with_reducible apply wpL_cmp); rfl; rfl; rfl; rfl; rfl)
            | ((with_reducible apply wpL_arith); rfl; rfl; rfl; (exact IntWalk.i64_in _ (by (try simp only [arithI]); omega)); rfl)); (try simp only [arithI, Act.put, Act.eval, List.setIfInBounds_toArray, List.set_cons_succ, List.set_cons_zero, Array.getD_eq_getD_getElem?, List.getElem?_toArray, List.getElem?_cons_succ, List.getElem?_cons_zero, Option.getD_some])))
      go_loopw [3, 5] (PadRel2 w (l ++ 128 :: List.replicate k 0) l.length) (fun _ i _ => (intOf i + 1).toNat)
      case atStart => exact ⟨0, Nat.zero_le _, rfl, ao1, cap1, by simp [lenBs], by simpa [lenBs] using HH.out⟩
      case round =>
        obtain ⟨j, hj, rfl, ao2, cap2, rfl, hr⟩ := hrel
        clear HH
        have HH := hid hr
        clear hr
        have hll : ((l ++ 128 :: List.replicate k 0) ++ lenBs l.length j).length = l.length + 1 + k + j := by rw [List.length_append, hlen]; simp [lenBs]
        by_cases hj8 : j < 8
        · have HA := hid (show ((l ++ 128 :: List.replicate k 0) ++ lenBs l.length j) ++ [lenByte l.length (7 - j)] = (l ++ 128 :: List.replicate k 0) ++ lenBs l.length (j + 1) by rw [lenBs_succ, List.append_assoc])
          have hk63 : k < 64 := by omega
          go_wp2_with (first
            | ((first
                | ((with_reducible apply wpL_skip); rfl; skip)
                | ((with_reducible apply wpL_shrN (m := l.length * 8) (k := 8 * (7 - j))); rfl; rfl; (exact (by omega)); (exact (by omega)); (exact (by omega)); rfl)
                | ((with_reducible apply wpL_toB Try.underlying119 Try.underlying5); rfl; rfl; rfl)
                | ((with_reducible apply wpL_buildB [lenByte l.length (7 - j)] (dst := some 32)); rfl; rfl; (exact (by omega)); (exact HH.out); rfl; (intro g_ w_ hq_; clear HH; have HH := hid hq_; clear hq_))
                | ((with_reducible apply wpL_appendB (dst := some 33) (l := (l ++ 128 :: List.replicate k 0) ++ lenBs l.length j) (l2 := [lenByte l.length (7 - j)]) HH.out.swap HH.out.sl0); rfl; rfl; (rw [hll]; exact (by simp; omega)); rfl; rfl; rfl; (rw [HA.out]; intro ao1 cap1 w_ hq_; clear HH; have HH := hid hq_.dropSnd; clear hq_))
                | ((with_reducible apply wpL_move); rfl; rfl)
                | ((with_reducible apply wpL_assign); rfl; rfl)
                | ((with_reducible apply wpL_pick); rfl; rfl; rfl)
                | ((with_reducible apply wpL_not); rfl; rfl)
                | ((with_reducible apply wpL_cmp (b := true)); rfl; rfl; rfl; (first | rfl | assumption | (simp only [cmpB, decide_eq_true_eq, decide_eq_false_iff_not, beq_iff_eq, bne_iff_ne, ne_eq, beq_eq_false_iff_ne, bne_eq_false_iff_eq, gt_iff_lt, ge_iff_le]; omega) | (simp; omega)); rfl)
                | ((with_reducible apply wpL_cmp (b := false)); rfl; rfl; rfl; (first | rfl | assumption | (simp only [cmpB, decide_eq_true_eq, decide_eq_false_iff_not, beq_iff_eq, bne_iff_ne, ne_eq, beq_eq_false_iff_ne, bne_eq_false_iff_eq, gt_iff_lt, ge_iff_le]; omega) | (simp; omega)); rfl)
                | ((with_reducible apply wpL_cmp); rfl; rfl; rfl; rfl; rfl)
                | ((with_reducible apply wpL_arith); rfl; rfl; rfl; (exact IntWalk.i64_in _ (by (try simp only [arithI]); omega)); rfl)); (try simp only [arithI, Act.put, Act.eval, List.setIfInBounds_toArray, List.set_cons_succ, List.set_cons_zero, Array.getD_eq_getD_getElem?, List.getElem?_toArray, List.getElem?_cons_succ, List.getElem?_cons_zero, Option.getD_some])))
          go_roundw
          case rel => exact ⟨j + 1, by omega, by go_num, _, _, rfl, HH.out⟩
          case measure => simp [intOf]; omega
        · have hj88 : j = 8 := by omega
          have HJ := hid hj88
          clear hj88
          go_wp2_with (first
            | ((first
                | ((with_reducible apply wpL_skip); rfl; skip)
                | ((with_reducible apply wpL_move); rfl; rfl)
                | ((with_reducible apply wpL_assign); rfl; rfl)
                | ((with_reducible apply wpL_pick); rfl; rfl; rfl)
                | ((with_reducible apply wpL_not); rfl; rfl)
                | ((with_reducible apply wpL_cmp (b := true)); rfl; rfl; rfl; (first | rfl | assumption | (simp only [cmpB, decide_eq_true_eq, decide_eq_false_iff_not, beq_iff_eq, bne_iff_ne, ne_eq, beq_eq_false_iff_ne, bne_eq_false_iff_eq, gt_iff_lt, ge_iff_le]; omega) | (simp; omega)); rfl)
                | ((with_reducible apply wpL_cmp (b := false)); rfl; rfl; rfl; (first | rfl | assumption | (simp only [cmpB, decide_eq_true_eq, decide_eq_false_iff_not, beq_iff_eq, bne_iff_ne, ne_eq, beq_eq_false_iff_ne, bne_eq_false_iff_eq, gt_iff_lt, ge_iff_le]; omega) | (simp; omega)); rfl)
                | ((with_reducible apply wpL_cmp); rfl; rfl; rfl; rfl; rfl)
                | ((with_reducible apply wpL_arith); rfl; rfl; rfl; (exact IntWalk.i64_in _ (by (try simp only [arithI]); omega)); rfl)); (try simp only [arithI, Act.put, Act.eval, List.setIfInBounds_toArray, List.set_cons_succ, List.set_cons_zero, Array.getD_eq_getD_getElem?, List.getElem?_toArray, List.getElem?_cons_succ, List.getElem?_cons_zero, Option.getD_some])))
          go_ret
          have e : (l ++ 128 :: List.replicate k 0) ++ lenBs l.length j = l ++ padL l.length := by
            rw [HJ.out, HKZ.out, List.append_assoc]; rfl
          have hq := HH.out
          simp only [e] at hq ⊢
          exact ⟨_, _, rfl, hq.own0, hq.below⟩
end Go.Proofs.Ytgkfopodhikckaa

/- Sum of the reference. Condition: at most a million bytes. -/
namespace Go.Proofs.Ytgkfopodhikckaa
open Go.RowKit
theorem A106 : AggT Try.prog 106 8 := ⟨_, Try.underlying106, rfl, by kernel_rfl⟩
theorem S106 : (Try.prog.info? 106).map (·.size) = some 8 := by kernel_rfl
theorem Z106 : (Try.prog.info? 106).map (·.zero) = some (some (.agg z8.toArray)) := by kernel_rfl
theorem build106 (s : St) (w : World) : (Instr.build 106 #[(0, wrd s.a), (1, wrd s.b), (2, wrd s.c), (3, wrd s.d), (4, wrd s.e), (5, wrd s.f), (6, wrd s.g), (7, wrd s.h)]).run Try.prog w = .ok (valW s.ws) w := by kernel_rfl
def rndN (s : St) (W : Nat → W32) : Nat → St
  | 0 => s
  | t + 1 => roundS (rndN s W t) (kL.getD t 0) (W t)
/-- The state after a block of 64 bytes. -/
def blockS (s : St) (b : List UInt8) : St := plusS s (rndN s (schW b) 64)
def outByte (s : St) (i : Nat) : UInt8 := w2b (s.ws.getD (i / 4) 0 >>> (24 - 8 * (i % 4)))
def outB (s : St) : Arr 32 := ⟨(List.range 32).map (outByte s), by simp⟩
/-- The state after t blocks. -/
def blocksN (p : List UInt8) : Nat → St
  | 0 => initS
  | t + 1 => blockS (blocksN p t) ((p.drop (64 * t)).take 64)
def z32 : List Value := (List.replicate 32 (0 : UInt8)).map byt
theorem Z24 : (Try.prog.info? 24).map (·.zero) = some (some (.agg z32.toArray)) := by kernel_rfl
theorem A24 : AggT Try.prog 24 32 := ⟨_, Try.underlying24, rfl, by kernel_rfl⟩
theorem S24 : (Try.prog.info? 24).map (·.size) = some 32 := by kernel_rfl
theorem S5' : (Try.prog.info? 5).map (·.size) = some 1 := by kernel_rfl
/-- The first i of the words are added to. -/
def addW (h v : List W32) (i : Nat) : List W32 := (List.range 8).map fun j => if j < i then h.getD j 0 + v.getD j 0 else h.getD j 0
theorem addW_len (h v : List W32) (i : Nat) : (addW h v i).length = 8 := by simp [addW]
theorem addW_get {h v : List W32} {i : Nat} (hi : i < 8) : (addW h v i).getD i 0 = h.getD i 0 := by simp [addW, hi]
theorem addW_set (h v : List W32) {i : Nat} (hi : i < 8) : (addW h v i).set i (h.getD i 0 + v.getD i 0) = addW h v (i + 1) := by
  apply List.ext_getElem
  · simp [addW]
  · intro j h1 h2
    rw [List.getElem_set]
    simp only [addW, List.getElem_map, List.getElem_range]
    by_cases hij : i = j
    · subst hij; simp
    · rw [if_neg hij]
      by_cases hj : j < i
      · rw [if_pos hj, if_pos (by omega)]
      · rw [if_neg hj, if_neg (by omega)]
theorem addW_full (s v : St) : addW s.ws v.ws 8 = (plusS s v).ws := rfl
def fillB (f : Nat → UInt8) (n i : Nat) : List UInt8 := (List.range n).map fun j => if j < i then f j else 0
theorem fillB_len (f : Nat → UInt8) (n i : Nat) : (fillB f n i).length = n := by simp [fillB]
theorem fillB_zero (f : Nat → UInt8) (n : Nat) : fillB f n 0 = List.replicate n 0 := by
  apply List.ext_getElem? ; intro j
  simp only [fillB, List.getElem?_map, List.getElem?_range, Nat.not_lt_zero, if_false, List.getElem?_replicate]
  by_cases h : j < n
  · simp [h]
  · simp [h]
theorem fillB_set (f : Nat → UInt8) {n i : Nat} (h : i < n) : (fillB f n i).set i (f i) = fillB f n (i + 1) := by
  apply List.ext_getElem
  · simp [fillB]
  · intro j h1 h2
    rw [List.getElem_set]
    simp only [fillB, List.getElem_map, List.getElem_range]
    by_cases hij : i = j
    · subst hij; simp
    · rw [if_neg hij]
      by_cases hj : j < i
      · rw [if_pos hj, if_pos (by omega)]
      · rw [if_neg hj, if_neg (by omega)]
theorem fillB_full (f : Nat → UInt8) (n : Nat) : fillB f n n = (List.range n).map f := by
  unfold fillB
  apply List.map_congr_left
  intro j hj
  rw [if_pos (by simpa using hj)]
section
variable {w w0 : World} {S : List Nat} {bs bs' : List (Nat × Obj)} {rows : List Row} {ops : Array Oper} {rest : List Oper} {a : Act} {dst : Option Tmp} {ty : TypeId} {pos : String} {after : Array Edge} {guard : Option (Nat × Bool)} {Q : Exit → Act → World → Prop} {P : Program}
theorem wpL_storeBt {t : TypeId} {x y : Operand} {g m : Nat} {l : List UInt8} {v : UInt8} {e : TypeId}
    (hx : a.eval x = .pointer (some ⟨g, 0 + m, none⟩)) (hy : a.eval y = byt v) (hi : (P.info? t).map (·.size) = some 1)
    (hH : Holds w0 S bs rows w) (ht : Turn bs g (objC (l.map byt) e) (objC ((l.set m v).map byt) e) bs') (hc : m < l.length)
    (hg : Region.wanted { dst := dst, op := .store t x y, type := ty, pos := pos, after := after, guard := guard } (yielded ops a.tmps) = true)
    (h : ∀ w', Holds w0 S bs' rows w' → wpList P ops Q rest (a.put dst undef) w') :
    wpList P ops Q ({ dst := dst, op := .store t x y, type := ty, pos := pos, after := after, guard := guard } :: rest) a w := by
  rw [Nat.zero_add] at hx
  rw [List.map_set] at ht
  exact wpL_store1 hx hy rfl hi hH ht rfl (by simpa using hc) hg h
theorem wpL_quoN {t yt : TypeId} {x y : Operand} {p q : Int} {m n : Nat} (hx : a.eval x = .int .i64 p) (hy : a.eval y = .int .i64 q) (hp : p = (m : Int)) (hq : q = (n : Int)) (hn : 0 < n) (hm : m < 9223372036854775807)
    (hg : Region.wanted { dst := dst, op := .binOp .quo t x y yt, type := ty, pos := pos, after := after, guard := guard } (yielded ops a.tmps) = true)
    (h : wpList P ops Q rest (a.put dst (.int .i64 ((m / n : Nat) : Int))) w) : wpList P ops Q ({ dst := dst, op := .binOp .quo t x y yt, type := ty, pos := pos, after := after, guard := guard } :: rest) a w := by
  subst hp hq
  refine wpList_ex hg ?_ h
  have he : ∀ u v, eqGuard .quo t x y u v = pure () := fun _ _ => rfl
  have hr : (binOp .quo t (.int .i64 (m : Int)) (.int .i64 (n : Int))).run P w = .ok (.int .i64 ((m / n : Nat) : Int)) w := by
    show (Op.intDiv .quo .i64 (m : Int) (n : Int)).run P w = _
    have h0 : ¬ (n : Int) = 0 := by omega
    have h1 : IntKind.i64.wrap ((m : Int).tdiv (n : Int)) = ((m / n : Nat) : Int) := by rw [IntWalk.i64_quo _ _ ⟨by omega, by omega, by omega⟩]; norm_cast
    simp only [Op.intDiv, h0, if_false, Sem.run_pure, h1]
  simp only [execOp, hx, hy, Sem.run_bind, he, Sem.run_pure, Result.andThen_ok, hr]
theorem wpL_wshrN {t yt : TypeId} {x y : Operand} {p : W32} {k : IntKind} {n : Int} {m : Nat} (hx : a.eval x = wrd p) (hy : a.eval y = .int k n) (hn : n = (m : Int)) (hm : m < 32)
    (hg : Region.wanted { dst := dst, op := .binOp .shr t x y yt, type := ty, pos := pos, after := after, guard := guard } (yielded ops a.tmps) = true)
    (h : wpList P ops Q rest (a.put dst (wrd (p >>> m))) w) : wpList P ops Q ({ dst := dst, op := .binOp .shr t x y yt, type := ty, pos := pos, after := after, guard := guard } :: rest) a w := by
  subst hn
  exact wpL_wshr hx hy (by omega) hg (by simpa using h)
/-- x[lo:hi] of a slice of bytes. -/
theorem wpL_sliceB {x lo hi : Operand} {ad : Addr} {n c i j : Nat} {p q : Int} (hx : a.eval x = .slice (some ad) n c) (hl : a.eval lo = .int .i64 p) (hh : a.eval hi = .int .i64 q) (hp : p = (i : Int)) (hq : q = (j : Int)) (hij : i < j) (hj : j ≤ c)
    (hg : Region.wanted { dst := dst, op := .slice 22 x (some lo) (some hi) none, type := ty, pos := pos, after := after, guard := guard } (yielded ops a.tmps) = true)
    (h : wpList Try.prog ops Q rest (a.put dst (.slice (some (ad.add i)) (j - i) (c - i))) w) :
    wpList Try.prog ops Q ({ dst := dst, op := .slice 22 x (some lo) (some hi) none, type := ty, pos := pos, after := after, guard := guard } :: rest) a w := by
  subst hp hq
  refine wpList_ex hg ?_ h
  obtain ⟨ht, hsz, _, ii, z, hi', _, hsize, _, _⟩ := E22
  have h2 : ∀ w, (sizeOf 5).run Try.prog w = .ok 1 w := run_sizeOf (by rw [hi']; simp [hsize])
  have h3 : i ≤ j := by omega
  have h4 : ¬ c = i := by omega
  have h5 : j ≤ c := hj
  simp [execOp, hx, hl, hh, Instr.sliceAt, Instr.slice, Instr.sliceBounds, Instr.sliceBound, asIntOf, run_underlying ht, h2, h3, h4, h5]
end
theorem Byts.sub {w : World} {ad : Addr} {cap i j : Nat} {l : List UInt8} (h : Byts w (.slice (some ad) l.length cap) l) (hij : i < j) (hj : j ≤ l.length) : Byts w (.slice (some (ad.add i)) (j - i) (cap - i)) ((l.drop i).take (j - i)) := by
  have h1 := h.dropm (j := i) (by omega)
  have h2 := h1.take (j := j - i) (by omega)
  rw [Nat.mul_one, Nat.mul_one, ← List.map_drop, ← List.map_take] at h2
  exact Byts.of h2 (by simp; omega) rfl
def SumRel (w : World) (p : List UInt8) (ap : Option Addr) (cp g2 g3 g4 : Nat) (i : Value) (wr : World) : Prop :=
  ∃ t : Nat, 64 * t ≤ p.length ∧ i = .int .i64 (64 * t) ∧ Holds w [] [(g4, objC (kL.map wrd) 107), (g3, objC ((blocksN p t).ws.map wrd) 106), (g2, objC z32 24)] [rowB ap cp p] wr
def RndRel (w : World) (p b : List UInt8) (h : St) (ap : Option Addr) (cp g2 g3 g4 g7 g8 : Nat) (i : Value) (wr : World) : Prop :=
  ∃ t : Nat, t ≤ 64 ∧ i = .int .i64 t ∧ Holds w [] [(g8, objC ((rndN h (schW b) t).ws.map wrd) 106), (g7, objC (((List.range 64).map (schW b)).map wrd) 107), (g4, objC (kL.map wrd) 107), (g3, objC (h.ws.map wrd) 106), (g2, objC z32 24)] [rowB ap cp p] wr
def AddRel (w : World) (p b : List UInt8) (h v : St) (ap : Option Addr) (cp g2 g3 g4 g7 g8 : Nat) (i : Value) (wr : World) : Prop :=
  ∃ t : Nat, t ≤ 8 ∧ i = .int .i64 t ∧ Holds w [] [(g8, objC (v.ws.map wrd) 106), (g7, objC (((List.range 64).map (schW b)).map wrd) 107), (g4, objC (kL.map wrd) 107), (g3, objC ((addW h.ws v.ws t).map wrd) 106), (g2, objC z32 24)] [rowB ap cp p] wr
def OutRel (w : World) (p : List UInt8) (h : St) (ap : Option Addr) (cp g2 g3 g4 g13 : Nat) (i : Value) (wr : World) : Prop :=
  ∃ t : Nat, t ≤ 32 ∧ i = .int .i64 t ∧ Holds w [] [(g13, objC ((fillB (outByte h) 32 t).map byt) 24), (g4, objC (kL.map wrd) 107), (g3, objC (h.ws.map wrd) 106), (g2, objC z32 24)] [rowB ap cp p] wr
/-- The digest. -/
def sumB (l : List UInt8) : Arr 32 := outB (blocksN (l ++ padL l.length) ((l ++ padL l.length).length / 64))
def RetA {n : Nat} (w : World) (x : Arr n) (e : Ending) (w' : World) : Prop := e = .returned x.val ∧ Below w.heap.size w w'
set_option maxRecDepth 100000 in
set_option maxHeartbeats 4000000 in
theorem sumR_any (w : World) (v : Value) (l : List UInt8) (hl : Byts w v l) (hn : l.length ≤ 1000000) : Calls Try.prog 22 #[v] w (RetA w (sumB l)) := by
  obtain ⟨ao, cap, rfl, _⟩ := hl.shape
  have HL := hid hl
  clear hl
  have HH := hid (Holds.init w)
  obtain ⟨p, hp⟩ : ∃ p, l ++ padL l.length = p := ⟨_, rfl⟩
  rw [show sumB l = outB (blocksN p (p.length / 64)) by unfold sumB; rw [hp]]
  have hpl : p.length % 64 = 0 ∧ p.length ≤ 1000200 := by
    rw [← hp]
    simp only [padL, lenBs, List.length_append, List.length_cons, List.length_replicate, List.length_map, List.length_range, padZ]
    omega
  obtain ⟨hp1, hp2⟩ := hpl
  have HP := hid hp
  clear hp
  go_enter Try.func22, Try.ntmps22
  go_wp2_with (first
    | ((first
        | ((with_reducible apply wpL_skip); rfl; skip)
        | ((with_reducible apply wpL_allocC (dst := some 2) Z24 HH.out); rfl; (intro g2 w_ hq_; clear HH; have HH := hid hq_; clear hq_))
        | ((with_reducible apply wpList_build (dst := some 15) (v := valW initS.ws)); (exact build106 initS); rfl)
        | ((with_reducible apply wpL_allocC (dst := some 3) Z106 HH.out); rfl; (intro g3 w_ hq_; clear HH; have HH := hid hq_; clear hq_))
        | ((with_reducible apply wpL_storeC (vs := initS.ws.map wrd) (x := .tmp 3) (sz := 8)); rfl; rfl; (exact S106); (exact HH.out); (exact .here); rfl; (exact wrd_one _); rfl; rfl; (intro w_ hq_; clear HH; have HH := hid hq_; clear hq_))
        | (go_at_call 57; refine (constantsR_any _).mono ?_; rintro e w2 ⟨rfl, hb⟩; (have hq_ := HH.out.grow hb); clear HH; have HH := hid hq_; clear hq_ hb)
        | ((with_reducible apply wpL_allocC (dst := some 4) Z107 HH.out); rfl; (intro g4 w_ hq_; clear HH; have HH := hid hq_; clear hq_))
        | ((with_reducible apply wpL_storeC (vs := kL.map wrd) (x := .tmp 4) (sz := 64)); rfl; rfl; (exact S107); (exact HH.out); (exact .here); rfl; (exact wrd_one _); rfl; rfl; (intro w_ hq_; clear HH; have HH := hid hq_; clear hq_))
        | (go_at_call 58; refine (padded_any _ _ l (HH.out.sl HL.out) hn).mono ?_; rw [HP.out]; rintro e w2 ⟨ap, cp, rfl, hr⟩; (have hq_ := HH.out.addRow hr.2 hr.1); clear HH; have HH := hid hq_; clear hq_ hr)
        | ((with_reducible apply wpL_move); rfl; rfl)
        | ((with_reducible apply wpL_assign); rfl; rfl)
        | ((with_reducible apply wpL_pick); rfl; rfl; rfl)
        | ((with_reducible apply wpL_not); rfl; rfl)
        | ((with_reducible apply wpL_cmp (b := true)); rfl; rfl; rfl; (first | rfl | assumption | (simp only [cmpB, decide_eq_true_eq, decide_eq_false_iff_not, beq_iff_eq, bne_iff_ne, ne_eq, beq_eq_false_iff_ne, bne_eq_false_iff_eq, gt_iff_lt, ge_iff_le]; omega) | (simp; omega)); rfl)
        | ((with_reducible apply wpL_cmp (b := false)); rfl; rfl; rfl; (first | rfl | assumption | (simp only [cmpB, decide_eq_true_eq, decide_eq_false_iff_not, beq_iff_eq, bne_iff_ne, ne_eq, beq_eq_false_iff_ne, bne_eq_false_iff_eq, gt_iff_lt, ge_iff_le]; omega) | (simp; omega)); rfl)
        | ((with_reducible apply wpL_cmp); rfl; rfl; rfl; rfl; rfl)
        | ((with_reducible apply wpL_arith); rfl; rfl; rfl; (exact IntWalk.i64_in _ (by (try simp only [arithI]); omega)); rfl)); (try simp only [arithI, Act.put, Act.eval, List.setIfInBounds_toArray, List.set_cons_succ, List.set_cons_zero, Array.getD_eq_getD_getElem?, List.getElem?_toArray, List.getElem?_cons_succ, List.getElem?_cons_zero, Option.getD_some])))
  go_loopw [6] (SumRel w p ap cp g2 g3 g4) (fun i _ => p.length - (intOf i).toNat)
  case atStart => exact ⟨0, Nat.zero_le _, rfl, HH.out⟩
  case round =>
    obtain ⟨t, ht, rfl, hr⟩ := hrel
    clear HH
    have HH := hid hr
    clear hr
    by_cases hlt : 64 * t < p.length
    · have hle : 64 * t + 64 ≤ p.length := by omega
      obtain ⟨ad, cp', e⟩ := HH.out.sl0.some (by omega)
      cases e
      have hcap := HH.out.sl0.cap.2
      have hsub := hid (Byts.sub (i := 64 * t) (j := 64 * t + 64) HH.out.sl0 (by omega) hle)
      have e64 : 64 * t + 64 - 64 * t = 64 := by omega
      obtain ⟨b, hb⟩ : ∃ b, (p.drop (64 * t)).take 64 = b := ⟨_, rfl⟩
      have HBk := hid hb
      have hbl : b.length = 64 := by rw [← hb]; simp; omega
      have HSub : Hid (Byts _ (.slice (some (ad.add (64 * t))) 64 (cp - 64 * t)) b) := hid (by have h := hsub.out; rw [e64, hb] at h; exact Byts.of h (by omega) rfl)
      clear hsub hb
      go_wp2_with (first
        | ((first
            | ((with_reducible apply wpL_skip); rfl; skip)
            | ((with_reducible apply wpL_sliceB (i := 64 * t) (j := 64 * t + 64)); rfl; rfl; rfl; (exact (by omega)); (exact (by omega)); (exact (by omega)); (exact (by omega)); rfl; (rw [e64]))
            | (go_at_call 59; refine (schedule_any _ _ b HSub.out (by omega)).mono ?_; rintro e w2 ⟨rfl, hb⟩; (have hq_ := HH.out.grow hb); clear HH; have HH := hid hq_; clear hq_ hb)
            | ((with_reducible apply wpL_allocC (dst := some 7) Z107 HH.out); rfl; (intro g7 w_ hq_; clear HH; have HH := hid hq_; clear hq_))
            | ((with_reducible apply wpL_storeC (vs := ((List.range 64).map (schW b)).map wrd) (x := .tmp 7) (sz := 64)); rfl; rfl; (exact S107); (exact HH.out); (exact .here); rfl; (exact wrd_one _); rfl; rfl; (intro w_ hq_; clear HH; have HH := hid hq_; clear hq_))
            | ((with_reducible apply wpL_loadC (x := .tmp 3) A106 HH.out); rfl; (exact .there (.there .here)); rfl; rfl)
            | ((with_reducible apply wpL_allocC (dst := some 8) Z106 HH.out); rfl; (intro g8 w_ hq_; clear HH; have HH := hid hq_; clear hq_))
            | ((with_reducible apply wpL_storeC (vs := (blocksN p t).ws.map wrd) (x := .tmp 8) (sz := 8)); rfl; rfl; (exact S106); (exact HH.out); (exact .here); rfl; (exact wrd_one _); rfl; rfl; (intro w_ hq_; clear HH; have HH := hid hq_; clear hq_))
            | ((with_reducible apply wpL_move); rfl; rfl)
            | ((with_reducible apply wpL_assign); rfl; rfl)
            | ((with_reducible apply wpL_pick); rfl; rfl; rfl)
            | ((with_reducible apply wpL_not); rfl; rfl)
            | ((with_reducible apply wpL_cmp (b := true)); rfl; rfl; rfl; (first | rfl | assumption | (simp only [cmpB, decide_eq_true_eq, decide_eq_false_iff_not, beq_iff_eq, bne_iff_ne, ne_eq, beq_eq_false_iff_ne, bne_eq_false_iff_eq, gt_iff_lt, ge_iff_le]; omega) | (simp; omega)); rfl)
            | ((with_reducible apply wpL_cmp (b := false)); rfl; rfl; rfl; (first | rfl | assumption | (simp only [cmpB, decide_eq_true_eq, decide_eq_false_iff_not, beq_iff_eq, bne_iff_ne, ne_eq, beq_eq_false_iff_ne, bne_eq_false_iff_eq, gt_iff_lt, ge_iff_le]; omega) | (simp; omega)); rfl)
            | ((with_reducible apply wpL_cmp); rfl; rfl; rfl; rfl; rfl)
            | ((with_reducible apply wpL_arith); rfl; rfl; rfl; (exact IntWalk.i64_in _ (by (try simp only [arithI]); omega)); rfl)); (try simp only [arithI, Act.put, Act.eval, List.setIfInBounds_toArray, List.set_cons_succ, List.set_cons_zero, Array.getD_eq_getD_getElem?, List.getElem?_toArray, List.getElem?_cons_succ, List.getElem?_cons_zero, Option.getD_some])))
      go_loopw [9] (RndRel w p b (blocksN p t) (some ad) cp g2 g3 g4 g7 g8) (fun i _ => 64 - (intOf i).toNat)
      case atStart => exact ⟨0, Nat.zero_le _, rfl, HH.out⟩
      case round =>
        obtain ⟨r, hr64, rfl, hr⟩ := hrel
        clear HH
        have HH := hid hr
        clear hr
        by_cases hrl : r < 64
        · have hkl : kL.length = 64 := rfl
          have hsl : ((List.range 64).map (schW b)).length = 64 := by simp
          have hsg : ((List.range 64).map (schW b)).getD r 0 = schW b r := by simp [hrl]
          have HSG := hid (show (((List.range 64).map (schW b)).map wrd)[0 + r]? = some (wrd (schW b r)) by rw [← hsg]; exact wget (by omega))
          clear hsg
          go_wp2_with (first
            | ((first
                | ((with_reducible apply wpL_skip); rfl; skip)
                | ((with_reducible apply wpL_move); rfl; rfl)
                | ((with_reducible apply wpL_assign); rfl; rfl)
                | ((with_reducible apply wpL_pick); rfl; rfl; rfl)
                | ((with_reducible apply wpL_not); rfl; rfl)
                | ((with_reducible apply wpL_cmp (b := true)); rfl; rfl; rfl; (first | rfl | assumption | (simp only [cmpB, decide_eq_true_eq, decide_eq_false_iff_not, beq_iff_eq, bne_iff_ne, ne_eq, beq_eq_false_iff_ne, bne_eq_false_iff_eq, gt_iff_lt, ge_iff_le]; omega) | (simp; omega)); rfl)
                | ((with_reducible apply wpL_cmp (b := false)); rfl; rfl; rfl; (first | rfl | assumption | (simp only [cmpB, decide_eq_true_eq, decide_eq_false_iff_not, beq_iff_eq, bne_iff_ne, ne_eq, beq_eq_false_iff_ne, bne_eq_false_iff_eq, gt_iff_lt, ge_iff_le]; omega) | (simp; omega)); rfl)
                | ((with_reducible apply wpL_cmp); rfl; rfl; rfl; rfl; rfl)
                | ((with_reducible apply wpL_arith); rfl; rfl; rfl; (exact IntWalk.i64_in _ (by (try simp only [arithI]); omega)); rfl)); (try simp only [arithI, Act.put, Act.eval, List.setIfInBounds_toArray, List.set_cons_succ, List.set_cons_zero, Array.getD_eq_getD_getElem?, List.getElem?_toArray, List.getElem?_cons_succ, List.getElem?_cons_zero, Option.getD_some])))
          refine wp_region_holds (by kernel_rfl) (by kernel_rfl) HH.out ?_
          repeat ((first
            | ((with_reducible apply wpQ_skip); rfl; skip)
            | ((with_reducible apply wpQ_indexVar (i := .tmp 63) (m := r) Try.underlying107 S105); rfl; rfl; rfl; (exact hrl); rfl)
            | ((with_reducible apply wpQ_indexVar (i := .tmp 67) (m := r) Try.underlying107 S105); rfl; rfl; rfl; (exact hrl); rfl)
            | ((with_reducible apply wpQ_load1 (x := .tmp 64) (v := wrd (kL.getD r 0)) O105); rfl; (exact .there (.there .here)); (exact wget (by omega)); rfl)
            | ((with_reducible apply wpQ_load1 (x := .tmp 68) (v := wrd (schW b r)) O105); rfl; (exact .there .here); (exact HSG.out); rfl)
            | ((with_reducible apply wpQ_indexVar Try.underlying106 S105); rfl; rfl; (first | exact (rfl : (0 : Int) = ((0 : Nat) : Int)) | exact (rfl : (1 : Int) = ((1 : Nat) : Int)) | exact (rfl : (2 : Int) = ((2 : Nat) : Int)) | exact (rfl : (3 : Int) = ((3 : Nat) : Int)) | exact (rfl : (4 : Int) = ((4 : Nat) : Int)) | exact (rfl : (5 : Int) = ((5 : Nat) : Int)) | exact (rfl : (6 : Int) = ((6 : Nat) : Int)) | exact (rfl : (7 : Int) = ((7 : Nat) : Int))); (exact (by decide)); rfl)
            | ((with_reducible apply wpQ_load1 O105); rfl; (exact .here); rfl; rfl)
            | ((with_reducible apply wpQ_rotate); rfl; rfl; (exact (by decide)); rfl)
            | ((with_reducible apply wpQ_wop); rfl; rfl; rfl; rfl)
            | ((with_reducible apply wpQ_wnot); rfl; rfl)
            | ((with_reducible apply wpQ_move); rfl; rfl)
            | ((with_reducible apply wpQ_assign); rfl; rfl)
            | ((with_reducible apply wpQ_pick); rfl; rfl; rfl)
            | ((with_reducible apply wpQ_not); rfl; rfl)
            | ((with_reducible apply wpQ_cmp (b := true)); rfl; rfl; rfl; (first | rfl | assumption | (simp only [cmpB, decide_eq_true_eq, decide_eq_false_iff_not, beq_iff_eq, bne_iff_ne, ne_eq, beq_eq_false_iff_ne, bne_eq_false_iff_eq, gt_iff_lt, ge_iff_le]; omega) | (simp; omega)); rfl)
            | ((with_reducible apply wpQ_cmp (b := false)); rfl; rfl; rfl; (first | rfl | assumption | (simp only [cmpB, decide_eq_true_eq, decide_eq_false_iff_not, beq_iff_eq, bne_iff_ne, ne_eq, beq_eq_false_iff_ne, bne_eq_false_iff_eq, gt_iff_lt, ge_iff_le]; omega) | (simp; omega)); rfl)
            | ((with_reducible apply wpQ_cmp); rfl; rfl; rfl; rfl; rfl)
            | ((with_reducible apply wpQ_arith); rfl; rfl; rfl; (exact IntWalk.i64_in _ (by (try simp only [arithI]); omega)); rfl)); simp only [arithI, Act.put, Act.eval, List.setIfInBounds_toArray, List.set_cons_succ, List.set_cons_zero, Array.getD_eq_getD_getElem?, List.getElem?_toArray, List.getElem?_cons_succ, List.getElem?_cons_zero, Option.getD_some])
          refine wpQuiet_nil ?_
          intro wq hq_
          have HQ := hid hq_
          clear hq_
          go_wp2
          refine wp_region_holds (by kernel_rfl) (by kernel_rfl) HQ.out ?_
          repeat ((first
            | ((with_reducible apply wpQ_skip); rfl; skip)
            | ((with_reducible apply wpQ_indexVar Try.underlying106 S105); rfl; rfl; (first | exact (rfl : (0 : Int) = ((0 : Nat) : Int)) | exact (rfl : (1 : Int) = ((1 : Nat) : Int)) | exact (rfl : (2 : Int) = ((2 : Nat) : Int)) | exact (rfl : (3 : Int) = ((3 : Nat) : Int)) | exact (rfl : (4 : Int) = ((4 : Nat) : Int)) | exact (rfl : (5 : Int) = ((5 : Nat) : Int)) | exact (rfl : (6 : Int) = ((6 : Nat) : Int)) | exact (rfl : (7 : Int) = ((7 : Nat) : Int))); (exact (by decide)); rfl)
            | ((with_reducible apply wpQ_load1 O105); rfl; (exact .here); rfl; rfl)
            | ((with_reducible apply wpQ_rotate); rfl; rfl; (exact (by decide)); rfl)
            | ((with_reducible apply wpQ_wop); rfl; rfl; rfl; rfl)
            | ((with_reducible apply wpQ_wnot); rfl; rfl)
            | ((with_reducible apply wpQ_move); rfl; rfl)
            | ((with_reducible apply wpQ_assign); rfl; rfl)
            | ((with_reducible apply wpQ_pick); rfl; rfl; rfl)
            | ((with_reducible apply wpQ_not); rfl; rfl)
            | ((with_reducible apply wpQ_cmp (b := true)); rfl; rfl; rfl; (first | rfl | assumption | (simp only [cmpB, decide_eq_true_eq, decide_eq_false_iff_not, beq_iff_eq, bne_iff_ne, ne_eq, beq_eq_false_iff_ne, bne_eq_false_iff_eq, gt_iff_lt, ge_iff_le]; omega) | (simp; omega)); rfl)
            | ((with_reducible apply wpQ_cmp (b := false)); rfl; rfl; rfl; (first | rfl | assumption | (simp only [cmpB, decide_eq_true_eq, decide_eq_false_iff_not, beq_iff_eq, bne_iff_ne, ne_eq, beq_eq_false_iff_ne, bne_eq_false_iff_eq, gt_iff_lt, ge_iff_le]; omega) | (simp; omega)); rfl)
            | ((with_reducible apply wpQ_cmp); rfl; rfl; rfl; rfl; rfl)
            | ((with_reducible apply wpQ_arith); rfl; rfl; rfl; (exact IntWalk.i64_in _ (by (try simp only [arithI]); omega)); rfl)); simp only [arithI, Act.put, Act.eval, List.setIfInBounds_toArray, List.set_cons_succ, List.set_cons_zero, Array.getD_eq_getD_getElem?, List.getElem?_toArray, List.getElem?_cons_succ, List.getElem?_cons_zero, Option.getD_some])
          refine wpQuiet_nil ?_
          intro wq hq_
          have HR := hid hq_
          clear hq_
          clear HH HQ
          have HH := HR
          clear HR
          go_wp2_with (first
            | ((first
                | ((with_reducible apply wpL_skip); rfl; skip)
                | ((with_reducible apply wpL_indexVar Try.underlying106 S105); rfl; rfl; (first | exact (rfl : (0 : Int) = ((0 : Nat) : Int)) | exact (rfl : (1 : Int) = ((1 : Nat) : Int)) | exact (rfl : (2 : Int) = ((2 : Nat) : Int)) | exact (rfl : (3 : Int) = ((3 : Nat) : Int)) | exact (rfl : (4 : Int) = ((4 : Nat) : Int)) | exact (rfl : (5 : Int) = ((5 : Nat) : Int)) | exact (rfl : (6 : Int) = ((6 : Nat) : Int)) | exact (rfl : (7 : Int) = ((7 : Nat) : Int))); (exact (by decide)); rfl)
                | ((with_reducible apply wpL_load1 O105 HH.out); rfl; (exact .here); rfl; rfl)
                | ((with_reducible apply wpL_wop); rfl; rfl; rfl; rfl)
                | ((with_reducible apply wpList_build (v := valW (roundS (rndN (blocksN p t) (schW b) r) (kL.getD r 0) (schW b r)).ws)); (exact build106 (roundS (rndN (blocksN p t) (schW b) r) (kL.getD r 0) (schW b r))); rfl)
                | ((with_reducible apply wpL_storeC (vs := (roundS (rndN (blocksN p t) (schW b) r) (kL.getD r 0) (schW b r)).ws.map wrd) (x := .tmp 8) (sz := 8)); rfl; rfl; (exact S106); (exact HH.out); (exact .here); rfl; (exact wrd_one _); rfl; rfl; (intro w_ hq_; clear HH; have HH := hid hq_; clear hq_))
                | ((with_reducible apply wpL_move); rfl; rfl)
                | ((with_reducible apply wpL_assign); rfl; rfl)
                | ((with_reducible apply wpL_pick); rfl; rfl; rfl)
                | ((with_reducible apply wpL_not); rfl; rfl)
                | ((with_reducible apply wpL_cmp (b := true)); rfl; rfl; rfl; (first | rfl | assumption | (simp only [cmpB, decide_eq_true_eq, decide_eq_false_iff_not, beq_iff_eq, bne_iff_ne, ne_eq, beq_eq_false_iff_ne, bne_eq_false_iff_eq, gt_iff_lt, ge_iff_le]; omega) | (simp; omega)); rfl)
                | ((with_reducible apply wpL_cmp (b := false)); rfl; rfl; rfl; (first | rfl | assumption | (simp only [cmpB, decide_eq_true_eq, decide_eq_false_iff_not, beq_iff_eq, bne_iff_ne, ne_eq, beq_eq_false_iff_ne, bne_eq_false_iff_eq, gt_iff_lt, ge_iff_le]; omega) | (simp; omega)); rfl)
                | ((with_reducible apply wpL_cmp); rfl; rfl; rfl; rfl; rfl)
                | ((with_reducible apply wpL_arith); rfl; rfl; rfl; (exact IntWalk.i64_in _ (by (try simp only [arithI]); omega)); rfl)); (try simp only [arithI, Act.put, Act.eval, List.setIfInBounds_toArray, List.set_cons_succ, List.set_cons_zero, Array.getD_eq_getD_getElem?, List.getElem?_toArray, List.getElem?_cons_succ, List.getElem?_cons_zero, Option.getD_some])))
          go_roundw
          case rel => exact ⟨r + 1, by omega, by go_num, HH.out⟩
          case measure => simp [intOf]; omega
        · obtain rfl : r = 64 := by omega
          obtain ⟨v8, hv8⟩ : ∃ v8, rndN (blocksN p t) (schW b) 64 = v8 := ⟨_, rfl⟩
          obtain ⟨h8, hh8⟩ : ∃ h8, blocksN p t = h8 := ⟨_, rfl⟩
          have HV := hid hv8
          have HB8 := hid hh8
          have h0 := HH.out
          rw [hv8, hh8] at h0
          clear HH hv8
          have HH := hid h0
          clear h0
          have hvl : v8.ws.length = 8 := rfl
          go_wp2_with (first
            | ((first
                | ((with_reducible apply wpL_skip); rfl; skip)
                | ((with_reducible apply wpL_move); rfl; rfl)
                | ((with_reducible apply wpL_assign); rfl; rfl)
                | ((with_reducible apply wpL_pick); rfl; rfl; rfl)
                | ((with_reducible apply wpL_not); rfl; rfl)
                | ((with_reducible apply wpL_cmp (b := true)); rfl; rfl; rfl; (first | rfl | assumption | (simp only [cmpB, decide_eq_true_eq, decide_eq_false_iff_not, beq_iff_eq, bne_iff_ne, ne_eq, beq_eq_false_iff_ne, bne_eq_false_iff_eq, gt_iff_lt, ge_iff_le]; omega) | (simp; omega)); rfl)
                | ((with_reducible apply wpL_cmp (b := false)); rfl; rfl; rfl; (first | rfl | assumption | (simp only [cmpB, decide_eq_true_eq, decide_eq_false_iff_not, beq_iff_eq, bne_iff_ne, ne_eq, beq_eq_false_iff_ne, bne_eq_false_iff_eq, gt_iff_lt, ge_iff_le]; omega) | (simp; omega)); rfl)
                | ((with_reducible apply wpL_cmp); rfl; rfl; rfl; rfl; rfl)
                | ((with_reducible apply wpL_arith); rfl; rfl; rfl; (exact IntWalk.i64_in _ (by (try simp only [arithI]); omega)); rfl)); (try simp only [arithI, Act.put, Act.eval, List.setIfInBounds_toArray, List.set_cons_succ, List.set_cons_zero, Array.getD_eq_getD_getElem?, List.getElem?_toArray, List.getElem?_cons_succ, List.getElem?_cons_zero, Option.getD_some])))
          go_loopw [12] (AddRel w p b h8 v8 (some ad) cp g2 g3 g4 g7 g8) (fun i _ => 8 - (intOf i).toNat)
          case atStart => exact ⟨0, Nat.zero_le _, rfl, HH.out⟩
          case round =>
            obtain ⟨q, hq8, rfl, hr⟩ := hrel
            clear HH
            have HH := hid hr
            clear hr
            by_cases hql : q < 8
            · have hal := addW_len h8.ws v8.ws q
              have HG := hid (show ((addW h8.ws v8.ws q).map wrd)[0 + q]? = some (wrd (h8.ws.getD q 0)) by rw [← addW_get (v := v8.ws) hql]; exact wget (by omega))
              have HS := hid (addW_set h8.ws v8.ws hql)
              go_wp2_with (first
                | ((first
                    | ((with_reducible apply wpL_skip); rfl; skip)
                    | ((with_reducible apply wpL_move); rfl; rfl)
                    | ((with_reducible apply wpL_assign); rfl; rfl)
                    | ((with_reducible apply wpL_pick); rfl; rfl; rfl)
                    | ((with_reducible apply wpL_not); rfl; rfl)
                    | ((with_reducible apply wpL_cmp (b := true)); rfl; rfl; rfl; (first | rfl | assumption | (simp only [cmpB, decide_eq_true_eq, decide_eq_false_iff_not, beq_iff_eq, bne_iff_ne, ne_eq, beq_eq_false_iff_ne, bne_eq_false_iff_eq, gt_iff_lt, ge_iff_le]; omega) | (simp; omega)); rfl)
                    | ((with_reducible apply wpL_cmp (b := false)); rfl; rfl; rfl; (first | rfl | assumption | (simp only [cmpB, decide_eq_true_eq, decide_eq_false_iff_not, beq_iff_eq, bne_iff_ne, ne_eq, beq_eq_false_iff_ne, bne_eq_false_iff_eq, gt_iff_lt, ge_iff_le]; omega) | (simp; omega)); rfl)
                    | ((with_reducible apply wpL_cmp); rfl; rfl; rfl; rfl; rfl)
                    | ((with_reducible apply wpL_arith); rfl; rfl; rfl; (exact IntWalk.i64_in _ (by (try simp only [arithI]); omega)); rfl)); (try simp only [arithI, Act.put, Act.eval, List.setIfInBounds_toArray, List.set_cons_succ, List.set_cons_zero, Array.getD_eq_getD_getElem?, List.getElem?_toArray, List.getElem?_cons_succ, List.getElem?_cons_zero, Option.getD_some])))
              refine wp_region_tailQ 9 (by kernel_rfl) (by kernel_rfl) (by kernel_rfl) HH.out ?_
              simp only [List.take_succ_cons, List.take_zero, List.drop_succ_cons, List.drop_zero]
              repeat ((first
                | ((with_reducible apply wpQ_skip); rfl; skip)
                | ((with_reducible apply wpQ_indexVar (m := q) Try.underlying106 S105); rfl; rfl; rfl; (exact hql); rfl)
                | ((with_reducible apply wpQ_load1 (x := .tmp 126) (v := wrd (h8.ws.getD q 0)) O105); rfl; (exact .there (.there (.there .here))); (exact HG.out); rfl)
                | ((with_reducible apply wpQ_load1 (x := .tmp 129) (v := wrd (v8.ws.getD q 0)) O105); rfl; (exact .here); (exact wget (by omega)); rfl)
                | ((with_reducible apply wpQ_wop); rfl; rfl; rfl; rfl)
                | ((with_reducible apply wpQ_move); rfl; rfl)
                | ((with_reducible apply wpQ_assign); rfl; rfl)
                | ((with_reducible apply wpQ_pick); rfl; rfl; rfl)
                | ((with_reducible apply wpQ_not); rfl; rfl)
                | ((with_reducible apply wpQ_cmp (b := true)); rfl; rfl; rfl; (first | rfl | assumption | (simp only [cmpB, decide_eq_true_eq, decide_eq_false_iff_not, beq_iff_eq, bne_iff_ne, ne_eq, beq_eq_false_iff_ne, bne_eq_false_iff_eq, gt_iff_lt, ge_iff_le]; omega) | (simp; omega)); rfl)
                | ((with_reducible apply wpQ_cmp (b := false)); rfl; rfl; rfl; (first | rfl | assumption | (simp only [cmpB, decide_eq_true_eq, decide_eq_false_iff_not, beq_iff_eq, bne_iff_ne, ne_eq, beq_eq_false_iff_ne, bne_eq_false_iff_eq, gt_iff_lt, ge_iff_le]; omega) | (simp; omega)); rfl)
                | ((with_reducible apply wpQ_cmp); rfl; rfl; rfl; rfl; rfl)
                | ((with_reducible apply wpQ_arith); rfl; rfl; rfl; (exact IntWalk.i64_in _ (by (try simp only [arithI]); omega)); rfl)); simp only [arithI, Act.put, Act.eval, List.setIfInBounds_toArray, List.set_cons_succ, List.set_cons_zero, Array.getD_eq_getD_getElem?, List.getElem?_toArray, List.getElem?_cons_succ, List.getElem?_cons_zero, Option.getD_some])
              refine wpQuiet_nil ?_
              intro wq hq_
              have HQ := hid hq_
              clear hq_
              clear HH
              have HH := HQ
              clear HQ
              go_wp2_with (first
                | ((first
                    | ((with_reducible apply wpL_skip); rfl; skip)
                    | ((with_reducible apply wpL_storeW (l := addW h8.ws v8.ws q) (m := q) (v := h8.ws.getD q 0 + v8.ws.getD q 0)); rfl; rfl; (exact S105); (exact HH.out); (exact .there (.there (.there .here))); (exact (by omega)); rfl; (intro w_ hq_; rw [HS.out] at hq_; clear HH; have HH := hid hq_; clear hq_))
                    | ((with_reducible apply wpL_move); rfl; rfl)
                    | ((with_reducible apply wpL_assign); rfl; rfl)
                    | ((with_reducible apply wpL_pick); rfl; rfl; rfl)
                    | ((with_reducible apply wpL_not); rfl; rfl)
                    | ((with_reducible apply wpL_cmp (b := true)); rfl; rfl; rfl; (first | rfl | assumption | (simp only [cmpB, decide_eq_true_eq, decide_eq_false_iff_not, beq_iff_eq, bne_iff_ne, ne_eq, beq_eq_false_iff_ne, bne_eq_false_iff_eq, gt_iff_lt, ge_iff_le]; omega) | (simp; omega)); rfl)
                    | ((with_reducible apply wpL_cmp (b := false)); rfl; rfl; rfl; (first | rfl | assumption | (simp only [cmpB, decide_eq_true_eq, decide_eq_false_iff_not, beq_iff_eq, bne_iff_ne, ne_eq, beq_eq_false_iff_ne, bne_eq_false_iff_eq, gt_iff_lt, ge_iff_le]; omega) | (simp; omega)); rfl)
                    | ((with_reducible apply wpL_cmp); rfl; rfl; rfl; rfl; rfl)
                    | ((with_reducible apply wpL_arith); rfl; rfl; rfl; (exact IntWalk.i64_in _ (by (try simp only [arithI]); omega)); rfl)); (try simp only [arithI, Act.put, Act.eval, List.setIfInBounds_toArray, List.set_cons_succ, List.set_cons_zero, Array.getD_eq_getD_getElem?, List.getElem?_toArray, List.getElem?_cons_succ, List.getElem?_cons_zero, Option.getD_some])))
              go_roundw
              case rel => exact ⟨q + 1, by omega, by go_num, HH.out⟩
              case measure => simp [intOf]; omega
            · obtain rfl : q = 8 := by omega
              have hnext : (plusS h8 v8) = blocksN p (t + 1) := by
                rw [blocksN, HBk.out, HB8.out]; unfold blockS; rw [← HV.out, HB8.out]
              have h0 := HH.out
              rw [addW_full, hnext] at h0
              clear HH
              have HH := hid h0.dropBlk.dropBlk
              clear h0 hnext
              go_wp2_with (first
                | ((first
                    | ((with_reducible apply wpL_skip); rfl; skip)
                    | ((with_reducible apply wpL_move); rfl; rfl)
                    | ((with_reducible apply wpL_assign); rfl; rfl)
                    | ((with_reducible apply wpL_pick); rfl; rfl; rfl)
                    | ((with_reducible apply wpL_not); rfl; rfl)
                    | ((with_reducible apply wpL_cmp (b := true)); rfl; rfl; rfl; (first | rfl | assumption | (simp only [cmpB, decide_eq_true_eq, decide_eq_false_iff_not, beq_iff_eq, bne_iff_ne, ne_eq, beq_eq_false_iff_ne, bne_eq_false_iff_eq, gt_iff_lt, ge_iff_le]; omega) | (simp; omega)); rfl)
                    | ((with_reducible apply wpL_cmp (b := false)); rfl; rfl; rfl; (first | rfl | assumption | (simp only [cmpB, decide_eq_true_eq, decide_eq_false_iff_not, beq_iff_eq, bne_iff_ne, ne_eq, beq_eq_false_iff_ne, bne_eq_false_iff_eq, gt_iff_lt, ge_iff_le]; omega) | (simp; omega)); rfl)
                    | ((with_reducible apply wpL_cmp); rfl; rfl; rfl; rfl; rfl)
                    | ((with_reducible apply wpL_arith); rfl; rfl; rfl; (exact IntWalk.i64_in _ (by (try simp only [arithI]); omega)); rfl)); (try simp only [arithI, Act.put, Act.eval, List.setIfInBounds_toArray, List.set_cons_succ, List.set_cons_zero, Array.getD_eq_getD_getElem?, List.getElem?_toArray, List.getElem?_cons_succ, List.getElem?_cons_zero, Option.getD_some])))
              go_roundw
              case rel => exact ⟨t + 1, by omega, by go_num, HH.out⟩
              case measure => simp [intOf]; omega
    · have ht64 : t = p.length / 64 := by omega
      obtain ⟨h8, hh8⟩ : ∃ h8, blocksN p t = h8 := ⟨_, rfl⟩
      have HB8 := hid hh8
      have HT := hid ht64
      have h0 := HH.out
      rw [hh8] at h0
      clear HH hh8 ht64
      have HH := hid h0
      clear h0
      have hwl : h8.ws.length = 8 := rfl
      go_wp2_with (first
        | ((first
            | ((with_reducible apply wpL_skip); rfl; skip)
            | ((with_reducible apply wpL_allocC (dst := some 13) Z24 HH.out); rfl; (intro g13 w_ hq_; clear HH; have HH := hid hq_; clear hq_))
            | ((with_reducible apply wpL_move); rfl; rfl)
            | ((with_reducible apply wpL_assign); rfl; rfl)
            | ((with_reducible apply wpL_pick); rfl; rfl; rfl)
            | ((with_reducible apply wpL_not); rfl; rfl)
            | ((with_reducible apply wpL_cmp (b := true)); rfl; rfl; rfl; (first | rfl | assumption | (simp only [cmpB, decide_eq_true_eq, decide_eq_false_iff_not, beq_iff_eq, bne_iff_ne, ne_eq, beq_eq_false_iff_ne, bne_eq_false_iff_eq, gt_iff_lt, ge_iff_le]; omega) | (simp; omega)); rfl)
            | ((with_reducible apply wpL_cmp (b := false)); rfl; rfl; rfl; (first | rfl | assumption | (simp only [cmpB, decide_eq_true_eq, decide_eq_false_iff_not, beq_iff_eq, bne_iff_ne, ne_eq, beq_eq_false_iff_ne, bne_eq_false_iff_eq, gt_iff_lt, ge_iff_le]; omega) | (simp; omega)); rfl)
            | ((with_reducible apply wpL_cmp); rfl; rfl; rfl; rfl; rfl)
            | ((with_reducible apply wpL_arith); rfl; rfl; rfl; (exact IntWalk.i64_in _ (by (try simp only [arithI]); omega)); rfl)); (try simp only [arithI, Act.put, Act.eval, List.setIfInBounds_toArray, List.set_cons_succ, List.set_cons_zero, Array.getD_eq_getD_getElem?, List.getElem?_toArray, List.getElem?_cons_succ, List.getElem?_cons_zero, Option.getD_some])))
      go_loopw [14] (OutRel w p h8 ap cp g2 g3 g4 g13) (fun i _ => 32 - (intOf i).toNat)
      case atStart => exact ⟨0, Nat.zero_le _, rfl, by rw [fillB_zero]; exact HH.out⟩
      case round =>
        obtain ⟨q, hq32, rfl, hr⟩ := hrel
        clear HH
        have HH := hid hr
        clear hr
        by_cases hql : q < 32
        · have hfl := fillB_len (outByte h8) 32 q
          have HS := hid (fillB_set (outByte h8) hql)
          have hq4 : q / 4 < 8 := by omega
          have hq5 : q % 4 < 4 := Nat.mod_lt _ (by omega)
          go_wp2_with (first
            | ((first
                | ((with_reducible apply wpL_skip); rfl; skip)
                | ((with_reducible apply wpL_quoN (m := q) (n := 4)); rfl; rfl; rfl; rfl; (exact (by omega)); (exact (by omega)); rfl)
                | ((with_reducible apply wpL_remN (m := q) (n := 4)); rfl; rfl; rfl; rfl; (exact (by omega)); (exact (by omega)); (exact (by omega)); rfl)
                | ((with_reducible apply wpL_indexVar (m := q / 4) Try.underlying106 S105); rfl; rfl; rfl; (exact hq4); rfl)
                | ((with_reducible apply wpL_load1 (v := wrd (h8.ws.getD (q / 4) 0)) O105 HH.out); rfl; (exact .there (.there .here)); (exact wget (by omega)); rfl)
                | ((with_reducible apply wpL_wshrN (m := 24 - 8 * (q % 4))); rfl; rfl; (exact (by omega)); (exact (by omega)); rfl)
                | ((with_reducible apply wpL_w2b Try.underlying105 Try.underlying5); rfl; rfl)
                | ((with_reducible apply wpL_indexVar (m := q) Try.underlying24 S5'); rfl; rfl; rfl; (exact hql); rfl)
                | ((with_reducible apply wpL_storeBt (l := fillB (outByte h8) 32 q) (m := q) (v := outByte h8 q)); rfl; rfl; (exact S5'); (exact HH.out); (exact .here); (exact (by omega)); rfl; (intro w_ hq_; rw [HS.out] at hq_; clear HH; have HH := hid hq_; clear hq_))
                | ((with_reducible apply wpL_move); rfl; rfl)
                | ((with_reducible apply wpL_assign); rfl; rfl)
                | ((with_reducible apply wpL_pick); rfl; rfl; rfl)
                | ((with_reducible apply wpL_not); rfl; rfl)
                | ((with_reducible apply wpL_cmp (b := true)); rfl; rfl; rfl; (first | rfl | assumption | (simp only [cmpB, decide_eq_true_eq, decide_eq_false_iff_not, beq_iff_eq, bne_iff_ne, ne_eq, beq_eq_false_iff_ne, bne_eq_false_iff_eq, gt_iff_lt, ge_iff_le]; omega) | (simp; omega)); rfl)
                | ((with_reducible apply wpL_cmp (b := false)); rfl; rfl; rfl; (first | rfl | assumption | (simp only [cmpB, decide_eq_true_eq, decide_eq_false_iff_not, beq_iff_eq, bne_iff_ne, ne_eq, beq_eq_false_iff_ne, bne_eq_false_iff_eq, gt_iff_lt, ge_iff_le]; omega) | (simp; omega)); rfl)
                | ((with_reducible apply wpL_cmp); rfl; rfl; rfl; rfl; rfl)
                | ((with_reducible apply wpL_arith); rfl; rfl; rfl; (exact IntWalk.i64_in _ (by (try simp only [arithI]); omega)); rfl)); (try simp only [arithI, Act.put, Act.eval, List.setIfInBounds_toArray, List.set_cons_succ, List.set_cons_zero, Array.getD_eq_getD_getElem?, List.getElem?_toArray, List.getElem?_cons_succ, List.getElem?_cons_zero, Option.getD_some])))
          go_roundw
          case rel => exact ⟨q + 1, by omega, by go_num, HH.out⟩
          case measure => simp [intOf]; omega
        · obtain rfl : q = 32 := by omega
          have h0 := HH.out
          rw [fillB_full] at h0
          clear HH
          have HH := hid h0
          clear h0
          go_wp2_with (first
            | ((first
                | ((with_reducible apply wpL_skip); rfl; skip)
                | ((with_reducible apply wpL_loadC (x := .tmp 13) A24 HH.out); rfl; (exact .here); rfl; rfl)
                | ((with_reducible apply wpL_storeC (vs := ((List.range 32).map (outByte h8)).map byt) (x := .tmp 2) (sz := 32)); rfl; rfl; (exact S24); (exact HH.out); (exact .there (.there (.there .here))); rfl; (exact byt_cell1 _); rfl; rfl; (intro w_ hq_; clear HH; have HH := hid hq_; clear hq_))
                | ((with_reducible apply wpL_move); rfl; rfl)
                | ((with_reducible apply wpL_assign); rfl; rfl)
                | ((with_reducible apply wpL_pick); rfl; rfl; rfl)
                | ((with_reducible apply wpL_not); rfl; rfl)
                | ((with_reducible apply wpL_cmp (b := true)); rfl; rfl; rfl; (first | rfl | assumption | (simp only [cmpB, decide_eq_true_eq, decide_eq_false_iff_not, beq_iff_eq, bne_iff_ne, ne_eq, beq_eq_false_iff_ne, bne_eq_false_iff_eq, gt_iff_lt, ge_iff_le]; omega) | (simp; omega)); rfl)
                | ((with_reducible apply wpL_cmp (b := false)); rfl; rfl; rfl; (first | rfl | assumption | (simp only [cmpB, decide_eq_true_eq, decide_eq_false_iff_not, beq_iff_eq, bne_iff_ne, ne_eq, beq_eq_false_iff_ne, bne_eq_false_iff_eq, gt_iff_lt, ge_iff_le]; omega) | (simp; omega)); rfl)
                | ((with_reducible apply wpL_cmp); rfl; rfl; rfl; rfl; rfl)
                | ((with_reducible apply wpL_arith); rfl; rfl; rfl; (exact IntWalk.i64_in _ (by (try simp only [arithI]); omega)); rfl)); (try simp only [arithI, Act.put, Act.eval, List.setIfInBounds_toArray, List.set_cons_succ, List.set_cons_zero, Array.getD_eq_getD_getElem?, List.getElem?_toArray, List.getElem?_cons_succ, List.getElem?_cons_zero, Option.getD_some])))
          refine bodyPost_ret (res1 rfl (resC A24 HH.out (by rfl) (.there (.there (.there .here))) rfl)) rfl ?_
          refine ⟨?_, HH.out.below⟩
          rw [← HT.out, HB8.out]
          rfl
end Go.Proofs.Ytgkfopodhikckaa

/- The plain law of sha256: the window of 16 words and the schedule of 64 agree; a digest of pieces is that of all. No condition. -/
namespace Go.Proofs.Ytgkfopodhikckaa
theorem w4_take (l : List UInt8) {k : Nat} (h : k + 3 < 64) : w4 (l.take 64) k = w4 l k := by
  have e : ∀ j, j < 64 → (l.take 64).getD j 0 = l.getD j 0 := by
    intro j hj
    simp only [List.getD_eq_getElem?_getD, List.getElem?_take]
    rw [if_pos hj]
  unfold w4
  rw [e k (by omega), e (k + 1) (by omega), e (k + 2) (by omega), e (k + 3) (by omega)]
theorem schW_take (l : List UInt8) : ∀ t, t < 64 → schW (l.take 64) t = schW l t := by
  intro t
  induction t using Nat.strongRecOn with
  | ind t ih =>
    intro ht
    rw [schW, schW.eq_1 l t]
    split
    · rw [w4_take l (by omega)]
    · rw [ih (t - 2) (by omega) (by omega), ih (t - 7) (by omega) (by omega), ih (t - 15) (by omega) (by omega), ih (t - 16) (by omega) (by omega)]
theorem getD_set (l : List W32) (i j : Nat) (x : W32) (h : i < l.length) : (l.set i x).getD j 0 = if i = j then x else l.getD j 0 := by
  simp only [List.getD_eq_getElem?_getD, List.getElem?_set]
  by_cases hij : i = j
  · subst hij; simp [h]
  · simp [hij]
theorem window (s : St) (l : List UInt8) : ∀ t, t ≤ 64 → (procN s (loadL l) t).1 = rndN s (schW l) t ∧
    ∀ i, i < max t 16 → max t 16 ≤ i + 16 → (procN s (loadL l) t).2.getD (i % 16) 0 = schW l i := by
  intro t
  induction t with
  | zero =>
    intro _
    refine ⟨rfl, fun i h1 h2 => ?_⟩
    have hi : i < 16 := by omega
    rw [Nat.mod_eq_of_lt hi, schW, dif_pos hi]
    show (loadL l).getD i 0 = _
    simp [loadL, hi]
  | succ t ih =>
    intro ht
    obtain ⟨h1, h2⟩ := ih (by omega)
    have hlen : (procN s (loadL l) t).2.length = 16 := by rw [procN_len]; simp [loadL]
    have key : ∀ i, i < max (t + 1) 16 → max (t + 1) 16 ≤ i + 16 → (winUp (procN s (loadL l) t).2 t).getD (i % 16) 0 = schW l i := by
      intro i hi1 hi2
      unfold winUp
      by_cases h16 : t < 16
      · rw [if_pos h16]
        exact h2 i (by omega) (by omega)
      · rw [if_neg h16, getD_set _ _ _ _ (by rw [hlen]; exact Nat.mod_lt _ (by omega))]
        by_cases hit : i = t
        · subst hit
          rw [if_pos rfl]
          have e16 := h2 (i - 16) (by omega) (by omega)
          have e2 := h2 (i - 2) (by omega) (by omega)
          have e7 := h2 (i - 7) (by omega) (by omega)
          have e15 := h2 (i - 15) (by omega) (by omega)
          rw [show (i - 16) % 16 = i % 16 by omega] at e16
          rw [e16, e2, e7, e15]
          conv => rhs; rw [schW, dif_neg h16]
          exact BitVec.add_comm _ _
        · rw [if_neg (by omega)]
          exact h2 i (by omega) (by omega)
    refine ⟨?_, fun i hi1 hi2 => by rw [procN]; exact key i hi1 hi2⟩
    rw [procN, rndN]
    simp only
    rw [h1, key t (by omega) (by omega)]
theorem plusS_comm (s o : St) : plusS s o = plusS o s := by
  unfold plusS
  simp only [BitVec.add_comm s.a, BitVec.add_comm s.b, BitVec.add_comm s.c, BitVec.add_comm s.d, BitVec.add_comm s.e, BitVec.add_comm s.f, BitVec.add_comm s.g, BitVec.add_comm s.h]
theorem rndN_congr (s : St) {W V : Nat → W32} : ∀ t, (∀ i, i < t → W i = V i) → rndN s W t = rndN s V t := by
  intro t
  induction t with
  | zero => intro _; rfl
  | succ t ih => intro h; rw [rndN, rndN, ih fun i hi => h i (by omega), h t (by omega)]
/-- Both ways to take in a block agree. -/
theorem process_block (s : St) (l : List UInt8) : processS s (loadL l) = blockS s (l.take 64) := by
  unfold processS blockS
  rw [(window s l 64 (Nat.le_refl _)).1, plusS_comm, rndN_congr s 64 fun i hi => (schW_take l i hi).symm]
/-- Takes in all complete blocks. -/
def absorb (s : St) (l : List UInt8) : St × List UInt8 := if 64 ≤ l.length then absorb (blockS s (l.take 64)) (l.drop 64) else (s, l)
termination_by l.length
decreasing_by simp; omega
theorem absorb_step {s : St} {l : List UInt8} (h : 64 ≤ l.length) : absorb s l = absorb (blockS s (l.take 64)) (l.drop 64) := by
  rw [absorb, if_pos h]
theorem absorb_done {s : St} {l : List UInt8} (h : ¬ 64 ≤ l.length) : absorb s l = (s, l) := by
  rw [absorb, if_neg h]
theorem absorb_append (s : St) (l m : List UInt8) : absorb s (l ++ m) = absorb (absorb s l).1 ((absorb s l).2 ++ m) := by
  induction hn : l.length using Nat.strongRecOn generalizing s l with
  | ind n ih =>
    by_cases h : 64 ≤ l.length
    · rw [absorb_step h, absorb_step (l := l ++ m) (by simp; omega), List.take_append_of_le_length h, List.drop_append_of_le_length h]
      exact ih (l.drop 64).length (by simp; omega) _ _ rfl
    · rw [absorb_done h]
theorem absorb_short (s : St) (l : List UInt8) : (absorb s l).2.length < 64 := by
  induction hn : l.length using Nat.strongRecOn generalizing s l with
  | ind n ih =>
    by_cases h : 64 ≤ l.length
    · rw [absorb_step h]; exact ih (l.drop 64).length (by simp; omega) _ _ rfl
    · rw [absorb_done h]; simp only; omega
theorem blocks_absorb (p : List UInt8) : ∀ t, 64 * t ≤ p.length → absorb initS p = absorb (blocksN p t) (p.drop (64 * t)) := by
  intro t
  induction t with
  | zero => intro _; simp [blocksN]
  | succ t ih =>
    intro h
    rw [ih (by omega), absorb_step (by simp; omega), blocksN, List.drop_drop]
    congr 2
theorem blocks_all (p : List UInt8) (h : p.length % 64 = 0) : blocksN p (p.length / 64) = (absorb initS p).1 := by
  rw [blocks_absorb p (p.length / 64) (by omega), absorb_done (by simp; omega)]
theorem pad_len (n m : Nat) (h : n = m) : (n + (padL m).length) % 64 = 0 := by
  subst h
  simp only [padL, lenBs, List.length_append, List.length_cons, List.length_replicate, List.length_map, List.length_range, padZ]
  omega
/-- The digest, told by what a Hash holds after all bytes. -/
theorem sumB_absorb (l : List UInt8) : sumB l = outB (absorb (absorb initS l).1 ((absorb initS l).2 ++ padL l.length)).1 := by
  unfold sumB
  rw [blocks_all _ (by rw [List.length_append]; exact pad_len _ _ rfl), absorb_append]
end Go.Proofs.Ytgkfopodhikckaa

/- A map of the call's own, from arrays of bytes to true: a set. Over any program. No condition. -/
namespace Go.Proofs.Ytgkfopodhikckaa
open Go.RowKit Go.ChangeShapes Go.WideShapes
section
variable {P : Program} {k e : TypeId} {n : Nat}
variable {t b : TypeId}
section
variable {w w0 : World} {S : List Nat} {bs bs' : List (Nat × Obj)} {rows : List Row} {ops : Array Oper} {rest : List Oper} {a : Act} {Q : Exit → Act → World → Prop} {dst : Option Tmp} {ty : TypeId} {pos : String} {after : Array Edge} {guard : Option (Nat × Bool)}
end
end
/-- A call that turned one block of its caller's, and laid new ones. -/
structure Turned (g : Nat) (o : Obj) (w w' : World) : Prop where
  os : w'.os = w.os
  tape : w'.tape = w.tape
  output : w'.output = w.output
  size : w.heap.size ≤ w'.heap.size
  blk : w'.heap[g]? = some o
  old : ∀ k, k < w.heap.size → k ≠ g → w'.heap[k]? = w.heap[k]?
theorem Holds.turned {w w' : World} {g : Nat} {o : Obj} {bs : List (Nat × Obj)} {rows : List Row} (h : Holds w [g] bs rows w') (ho : Own bs g o) : Turned g o w w' :=
  ⟨h.os, h.tape, h.output, h.size, h.at ho, fun k hk hne => h.old k hk (by simpa using hne)⟩
theorem Holds.turnedBy {w0 w w' : World} {S : List Nat} {bs bs' : List (Nat × Obj)} {rows : List Row} {g : Nat} {o o' : Obj} (h : Holds w0 S bs rows w) (ht : Turn bs g o o' bs') (hw : Turned g o' w w') : Holds w0 S bs' rows w' :=
  h.turn ht hw.blk hw.os hw.tape hw.output hw.size hw.old
/-- A call that was handed one block of its caller's. -/
theorem Holds.initS {w : World} {g : Nat} {o : Obj} (h : w.heap[g]? = some o) : Holds w [g] [(g, o)] [] w :=
  ⟨rfl, rfl, rfl, Nat.le_refl _, fun _ _ _ => rfl, by simpa using h, by simp, by simp, by simp, by simpa using (Array.getElem?_eq_some_iff.1 h).1⟩
end Go.Proofs.Ytgkfopodhikckaa

/- New, take of sha256's Hash. Condition: at most a million bytes. -/
namespace Go.Proofs.Ytgkfopodhikckaa
open Go.RowKit
/-- The cells of a Hash. -/
def hcells (s : St) (rv : Value) (n : Nat) : List Value := s.ws.map wrd ++ [rv, .int .i64 n, .bool true]
theorem F118 (f off : Nat) (h : (f = 0 ∧ off = 0) ∨ (f = 1 ∧ off = 8) ∨ (f = 2 ∧ off = 9) ∨ (f = 3 ∧ off = 10)) : FieldT Try.prog 118 f off := by
  rcases h with ⟨rfl, rfl⟩ | ⟨rfl, rfl⟩ | ⟨rfl, rfl⟩ | ⟨rfl, rfl⟩
  · exact ⟨_, _, 7, Try.underlying118, rfl, rfl, by kernel_rfl⟩
  · exact ⟨_, _, 0, Try.underlying118, rfl, rfl, by kernel_rfl⟩
  · exact ⟨_, _, 0, Try.underlying118, rfl, rfl, by kernel_rfl⟩
  · exact ⟨_, _, 0, Try.underlying118, rfl, rfl, by kernel_rfl⟩
theorem F118_0 : FieldT Try.prog 118 0 0 := F118 _ _ (by decide)
theorem F118_1 : FieldT Try.prog 118 1 8 := F118 _ _ (by decide)
theorem F118_2 : FieldT Try.prog 118 2 9 := F118 _ _ (by decide)
theorem F118_3 : FieldT Try.prog 118 3 10 := F118 _ _ (by decide)
theorem O22 : OneT Try.prog 22 := ⟨_, Try.underlying22, rfl⟩
theorem O3 : OneT Try.prog 3 := ⟨_, Try.underlying3, rfl⟩
theorem O4 : OneT Try.prog 4 := ⟨_, Try.underlying4, rfl⟩
theorem S22 : (Try.prog.info? 22).map (·.size) = some 1 := by kernel_rfl
theorem S3 : (Try.prog.info? 3).map (·.size) = some 1 := by kernel_rfl
theorem B80 : Body Try.prog 80 := ⟨_, _, Try.func80, rfl, rfl⟩
theorem B79 : Body Try.prog 79 := ⟨_, _, Try.func79, rfl, rfl⟩
theorem build118 (s : St) (w : World) : (Instr.build 118 #[(0, valW s.ws), (3, .bool true)]).run Try.prog w = .ok (.agg (hcells s (.slice none 0 0) 0).toArray) w := by kernel_rfl
section
variable {w w0 : World} {S : List Nat} {bs bs' : List (Nat × Obj)} {rows : List Row} {ops : Array Oper} {rest : List Oper} {a : Act} {dst : Option Tmp} {ty : TypeId} {pos : String} {after : Array Edge} {guard : Option (Nat × Bool)} {Q : Exit → Act → World → Prop} {P : Program} {C : World → Prop} {K : Act → Prop}
theorem ex_nilCheck {ρ : Operand → Value} {x : Operand} {ad : Addr} (hx : ρ x = .pointer (some ad)) (w : World) :
    (execOp ρ { dst := dst, op := .nilCheck x, type := ty, pos := pos, after := after, guard := guard }).run P w = .ok (.value (.pointer (some ad))) w := by
  simp only [execOp, hx, Sem.run_pure]
theorem wpQ_nilCheck {x : Operand} {ad : Addr} (hx : a.eval x = .pointer (some ad))
    (hg : Region.wanted { dst := dst, op := .nilCheck x, type := ty, pos := pos, after := after, guard := guard } (yielded ops a.tmps) = true)
    (h : wpQuiet P ops C K rest (a.put dst (.pointer (some ad)))) : wpQuiet P ops C K ({ dst := dst, op := .nilCheck x, type := ty, pos := pos, after := after, guard := guard } :: rest) a :=
  wpQuiet_ex hg (fun w _ => ex_nilCheck (ρ := a.eval) hx w) h
theorem wpL_nilCheck {x : Operand} {ad : Addr} (hx : a.eval x = .pointer (some ad))
    (hg : Region.wanted { dst := dst, op := .nilCheck x, type := ty, pos := pos, after := after, guard := guard } (yielded ops a.tmps) = true)
    (h : wpList P ops Q rest (a.put dst (.pointer (some ad))) w) : wpList P ops Q ({ dst := dst, op := .nilCheck x, type := ty, pos := pos, after := after, guard := guard } :: rest) a w :=
  wpList_ex hg (ex_nilCheck (ρ := a.eval) hx w) h
/-- x[64:] of a slice of bytes. -/
theorem wpL_sliceFromB {x lo : Operand} {ao : Option Addr} {n c j : Nat} {q : Int} (hx : a.eval x = .slice ao n c) (hi : a.eval lo = .int .i64 q) (hq : q = (j : Int)) (hj : j ≤ n)
    (hg : Region.wanted { dst := dst, op := .slice 22 x (some lo) none none, type := ty, pos := pos, after := after, guard := guard } (yielded ops a.tmps) = true)
    (h : wpList Try.prog ops Q rest (a.put dst (.slice (if c = j then ao else ao.map (·.add j)) (n - j) (c - j))) w) :
    wpList Try.prog ops Q ({ dst := dst, op := .slice 22 x (some lo) none none, type := ty, pos := pos, after := after, guard := guard } :: rest) a w := by
  refine wpList_ex hg (ex_slice_from (ρ := a.eval) E22 hx hi hq hj w) ?_
  rw [Nat.mul_one]; exact h
end
/-- v is a slice of the bytes l, which lie in the blocks ex. -/
def RestEx (ex : List (Nat × Obj)) (v : Value) (l : List UInt8) : Prop :=
  ∃ ao cap, v = .slice ao l.length cap ∧ l.length ≤ cap ∧ ∀ j u, (l.map byt)[j]? = some u → ∃ g cur off, ao = some ⟨g, off, none⟩ ∧ (g, Obj.cells cur 5) ∈ ex ∧ cur[off + j]? = some u
theorem RestEx.nil (ex : List (Nat × Obj)) : RestEx ex (.slice none 0 0) [] := ⟨none, 0, rfl, Nat.le_refl _, fun j u hu => by simp at hu⟩
theorem RestEx.byts {w0 w : World} {S : List Nat} {bs ex : List (Nat × Obj)} {rows : List Row} {v : Value} {l : List UInt8} (h : RestEx ex v l) (hH : Holds w0 S bs rows w) (ho : ∀ p ∈ ex, p ∈ bs) : Byts w v l := by
  obtain ⟨ao, cap, rfl, hc, hcell⟩ := h
  refine ⟨_, _, rfl, hc, by simp, fun j u hu => ?_⟩
  obtain ⟨g, cur, off, rfl, hm, hu'⟩ := hcell j u hu
  refine ⟨_, rfl, ?_⟩
  have hadd : (⟨g, off, none⟩ : Addr).add j = ⟨g, off + j, none⟩ := by unfold Addr.add; split <;> simp_all
  rw [hadd]
  simp [World.cell?, hH.blk _ (ho _ hm), hu']
theorem RestEx.drop {ex : List (Nat × Obj)} {ao : Option Addr} {n c : Nat} {l : List UInt8} (h : RestEx ex (.slice ao n c) l) {j : Nat} (hj : j ≤ n) : RestEx ex (.slice (if c = j then ao else ao.map (·.add j)) (n - j) (c - j)) (l.drop j) := by
  obtain ⟨ao', cap, e, hc, hcell⟩ := h
  simp only [Value.slice.injEq] at e
  obtain ⟨rfl, rfl, rfl⟩ := e
  refine ⟨_, c - j, by rw [List.length_drop], by simp; omega, fun i u hu => ?_⟩
  rw [List.map_drop, List.getElem?_drop] at hu
  have hlt : j + i < l.length := by have := (List.getElem?_eq_some_iff.1 hu).1; simpa using this
  obtain ⟨g, cur, off, rfl, hm, hu'⟩ := hcell _ _ hu
  refine ⟨g, cur, off + j, ?_, hm, by rwa [Nat.add_assoc]⟩
  have hadd : (⟨g, off, none⟩ : Addr).add j = ⟨g, off + j, none⟩ := by unfold Addr.add; split <;> simp_all
  rw [if_neg (by omega)]
  simp [hadd]
theorem RestEx.shape {ex : List (Nat × Obj)} {v : Value} {l : List UInt8} (h : RestEx ex v l) : ∃ ao cap, v = .slice ao l.length cap := by
  obtain ⟨ao, cap, e, _⟩ := h; exact ⟨ao, cap, e⟩
/-- New blocks ex join the call's own. -/
theorem Holds.addBlks {w0 w w' : World} {S : List Nat} {bs ex : List (Nat × Obj)} {rows : List Row} (h : Holds w0 S bs rows w') (hsz : w.heap.size ≤ w'.heap.size) (hlt : ∀ p ∈ bs, p.1 < w.heap.size) (hrl : ∀ r ∈ rows, ∀ k, r.v.ownBlock = some k → k < w.heap.size) (h0 : w0.heap.size ≤ w.heap.size)
    (hex : ∀ p ∈ ex, w.heap.size ≤ p.1 ∧ w'.heap[p.1]? = some p.2) (hnd : (ex.map (·.1)).Nodup) : Holds w0 S (bs ++ ex) rows w' := by
  refine ⟨h.os, h.tape, h.output, h.size, h.old, ?_, ?_, h.row, ?_, h.inS⟩
  · intro p hp
    rcases List.mem_append.1 hp with hp | hp
    · exact h.blk p hp
    · exact (hex p hp).2
  · intro p hp
    rcases List.mem_append.1 hp with hp | hp
    · exact h.frs p hp
    · exact .inl (Nat.le_trans h0 (hex p hp).1)
  · have hsep := h.sep
    rw [List.nodup_append] at hsep
    rw [List.map_append, List.append_assoc, List.nodup_append]
    refine ⟨hsep.1, List.nodup_append.2 ⟨hnd, hsep.2.1, ?_⟩, ?_⟩
    · intro a ha b hb e
      subst e
      obtain ⟨p, hp, rfl⟩ := List.mem_map.1 ha
      obtain ⟨r, hr, e⟩ := List.mem_filterMap.1 hb
      have h1 := hrl r hr _ e
      have h2 := (hex p hp).1
      omega
    · intro a ha b hb e
      subst e
      obtain ⟨q, hq, hqe⟩ := List.mem_map.1 ha
      have h1 := hlt q hq
      rcases List.mem_append.1 hb with hb | hb
      · obtain ⟨p, hp, hpe⟩ := List.mem_map.1 hb
        have h2 := (hex p hp).1
        omega
      · exact hsep.2.2 a ha a hb rfl
/-- An own row of bytes, taken as own blocks. -/
theorem Holds.rowEx {w0 w : World} {S : List Nat} {bs : List (Nat × Obj)} {rows : List Row} {ao : Option Addr} {cap : Nat} {l : List UInt8} (h : Holds w0 S bs (rowB ao cap l :: rows) w) :
    ∃ ex, RestEx ex (.slice ao l.length cap) l ∧ (∀ p ∈ ex, w0.heap.size ≤ p.1) ∧ (ex.map (·.1)).Nodup ∧ Holds w0 S (bs ++ ex) rows w := by
  have hown := h.own0
  rcases hown.2 with ⟨hv, hn0⟩ | ⟨g, cap', cur, hv, hb, hg, hn, hm, hs, htake⟩
  · have : l = [] := List.eq_nil_of_length_eq_zero hn0
    subst this
    refine ⟨[], ?_, by simp, by simp, by simpa using h.dropRow⟩
    simp only [List.length_nil] at hv ⊢
    rw [hv]
    exact RestEx.nil _
  · simp only [Value.slice.injEq, true_and] at hv
    obtain ⟨rfl, rfl⟩ := hv
    refine ⟨[(g, .cells cur 5)], ⟨_, cap, rfl, hn, fun j u hu => ?_⟩, by simpa using hb, by simp, ?_⟩
    · have h1 : j < l.length := by have := (List.getElem?_eq_some_iff.1 hu).1; simpa using this
      rw [← htake, List.getElem?_take, if_pos (by omega)] at hu
      exact ⟨g, cur, 0, rfl, by simp, by rw [Nat.zero_add]; simpa using hu⟩
    · have hd := h.dropRow
      have hsep := h.sep
      simp only [List.filterMap_cons, Value.ownBlock] at hsep
      rw [List.nodup_append] at hsep
      refine ⟨hd.os, hd.tape, hd.output, hd.size, hd.old, ?_, ?_, hd.row, ?_, hd.inS⟩
      · intro p hp
        rcases List.mem_append.1 hp with hp | hp
        · exact hd.blk p hp
        · rw [List.mem_singleton.1 hp]; exact hg
      · intro p hp
        rcases List.mem_append.1 hp with hp | hp
        · exact hd.frs p hp
        · rw [List.mem_singleton.1 hp]; exact .inl hb
      · rw [List.map_append, List.append_assoc, List.nodup_append]
        exact ⟨hsep.1, hsep.2.1, hsep.2.2⟩
/-- A call that was handed a Hash at g, and left it so; the rest lies in new blocks. -/
def HashOut (w : World) (g : Nat) (s : St) (r : List UInt8) (n : Nat) (w' : World) : Prop :=
  ∃ rv ex, RestEx ex rv r ∧ (∀ p ∈ ex, w.heap.size ≤ p.1 ∧ w'.heap[p.1]? = some p.2) ∧ (ex.map (·.1)).Nodup ∧ Turned g (objC (hcells s rv n) 118) w w'
/-- What was read in the first world reads so still, if the handed block is as it was. -/
theorem Holds.slS {w w' : World} {g : Nat} {o : Obj} {bs : List (Nat × Obj)} {rows : List Row} (h : Holds w [g] bs rows w') (ho : Own bs g o) (hg : w.heap[g]? = some o) {v : Value} {sz n : Nat} {cs : List Value} (hs : Sl w v sz n cs) : Sl w' v sz n cs :=
  hs.keep fun k hk => by
    by_cases e : k = g
    · subst e; rw [h.at ho, hg]
    · exact h.old k hk (by simpa using e)
def TakeRel (w : World) (g : Nat) (rv : Value) (n : Nat) (ex : List (Nat × Obj)) (s0 : St) (l0 : List UInt8) (v : Value) (wr : World) : Prop :=
  ∃ s l, absorb s0 l0 = absorb s l ∧ RestEx ex v l ∧ Holds w [g] ((g, objC (hcells s rv n) 118) :: ex) [] wr
theorem Holds.memEx {w0 w : World} {S : List Nat} {p : Nat × Obj} {ex : List (Nat × Obj)} {rows : List Row} (_ : Holds w0 S (p :: ex) rows w) : ∀ q ∈ ex, q ∈ p :: ex := fun _ hq => List.mem_cons_of_mem _ hq
set_option maxRecDepth 100000 in
set_option maxHeartbeats 4000000 in
theorem take_any (w : World) (g : Nat) (s : St) (rv vb : Value) (r b : List UInt8) (n : Nat) (hg : w.heap[g]? = some (objC (hcells s rv n) 118)) (hr : Byts w rv r) (hb : Byts w vb b) (hn : r.length + b.length ≤ 1000000) :
    Calls Try.prog 64 #[.pointer (some ⟨g, 0, none⟩), vb] w (fun e w' => e = .returned (.tuple #[]) ∧ HashOut w g (absorb s (r ++ b)).1 (absorb s (r ++ b)).2 n w') := by
  obtain ⟨ar, cr, rfl, _⟩ := hr.shape
  obtain ⟨ab, cb, rfl, _⟩ := hb.shape
  have HH := hid (Holds.initS hg)
  have HG := hid hg
  have HR := hid hr
  have HB := hid hb
  clear hg hr hb
  go_enter Try.func64, Try.ntmps64
  go_wp2_with (first
    | ((first
        | ((with_reducible apply wpL_skip); rfl; skip)
        | ((with_reducible apply wpL_nilCheck); rfl; rfl)
        | ((with_reducible apply wpL_fieldAddr (t := 118)); (first | exact F118_0 | exact F118_1 | exact F118_2 | exact F118_3); rfl; rfl)
        | ((with_reducible apply wpL_load1 (dst := some 8) O4 HH.out); rfl; (exact .here); rfl; rfl)
        | ((with_reducible apply wpL_load1 (dst := some 21) O22 HH.out); rfl; (exact .here); rfl; rfl)
        | ((with_reducible apply wpL_buildB [] (dst := some 17)); rfl; rfl; (exact (by omega)); (exact HH.out); rfl; (intro g_ w_ hq_; clear HH; have HH := hid hq_; clear hq_))
        | ((with_reducible apply wpL_appendB (dst := some 22) (l := []) (l2 := r) HH.out (HH.out.slS .here HG.out HR.out)); rfl; rfl; (exact (by simp; omega)); rfl; rfl; rfl; (intro ao1 cap1 w_ hq_; clear HH; have HH := hid hq_; clear hq_))
        | ((with_reducible apply wpL_appendB (dst := some 24) (l := r) (l2 := b) HH.out (HH.out.slS .here HG.out HB.out)); rfl; rfl; (exact (by omega)); rfl; rfl; rfl; (intro ao1 cap1 w_ hq_; clear HH; have HH := hid hq_; clear hq_))
        | ((with_reducible apply wpL_move); rfl; rfl)
        | ((with_reducible apply wpL_assign); rfl; rfl)
        | ((with_reducible apply wpL_pick); rfl; rfl; rfl)
        | ((with_reducible apply wpL_not); rfl; rfl)
        | ((with_reducible apply wpL_cmp (b := true)); rfl; rfl; rfl; (first | rfl | assumption | (simp only [cmpB, decide_eq_true_eq, decide_eq_false_iff_not, beq_iff_eq, bne_iff_ne, ne_eq, beq_eq_false_iff_ne, bne_eq_false_iff_eq, gt_iff_lt, ge_iff_le]; omega) | (simp; omega)); rfl)
        | ((with_reducible apply wpL_cmp (b := false)); rfl; rfl; rfl; (first | rfl | assumption | (simp only [cmpB, decide_eq_true_eq, decide_eq_false_iff_not, beq_iff_eq, bne_iff_ne, ne_eq, beq_eq_false_iff_ne, bne_eq_false_iff_eq, gt_iff_lt, ge_iff_le]; omega) | (simp; omega)); rfl)
        | ((with_reducible apply wpL_cmp); rfl; rfl; rfl; rfl; rfl)
        | ((with_reducible apply wpL_arith); rfl; rfl; rfl; (exact IntWalk.i64_in _ (by (try simp only [arithI]); omega)); rfl)); (try simp only [arithI, Act.put, Act.eval, List.setIfInBounds_toArray, List.set_cons_succ, List.set_cons_zero, Array.getD_eq_getD_getElem?, List.getElem?_toArray, List.getElem?_cons_succ, List.getElem?_cons_zero, Option.getD_some])))
  obtain ⟨ex, hre, hexb, hexn, hh⟩ := HH.out.rowEx
  have HXB := hid hexb
  have HXN := hid hexn
  have hll : (r ++ b).length ≤ 1000000 := by rw [List.length_append]; exact hn
  clear HH hexb hexn
  go_loopw [4] (TakeRel w g (.slice ar r.length cr) n ex s (r ++ b)) (fun v _ => lenV v)
  case atStart => exact ⟨s, r ++ b, rfl, hre, hh⟩
  case round =>
    obtain ⟨s', l', hab, hre', hr⟩ := hrel
    have HH := hid hr
    have HE := hid hre'
    have HAB := hid hab
    clear hr hre' hab hre hh
    obtain ⟨al, cl, rfl⟩ := HE.out.shape
    by_cases hlt : 64 ≤ l'.length
    · have HL := hid (HE.out.byts HH.out HH.out.memEx)
      have HPB := hid (process_block s' l')
      have hst := hid (absorb_step (s := s') hlt)
      go_wp2_with (first
        | ((first
            | ((with_reducible apply wpL_skip); rfl; skip)
            | ((with_reducible apply wpL_move); rfl; rfl)
            | ((with_reducible apply wpL_assign); rfl; rfl)
            | ((with_reducible apply wpL_pick); rfl; rfl; rfl)
            | ((with_reducible apply wpL_not); rfl; rfl)
            | ((with_reducible apply wpL_cmp (b := true)); rfl; rfl; rfl; (first | rfl | assumption | (simp only [cmpB, decide_eq_true_eq, decide_eq_false_iff_not, beq_iff_eq, bne_iff_ne, ne_eq, beq_eq_false_iff_ne, bne_eq_false_iff_eq, gt_iff_lt, ge_iff_le]; omega) | (simp; omega)); rfl)
            | ((with_reducible apply wpL_cmp (b := false)); rfl; rfl; rfl; (first | rfl | assumption | (simp only [cmpB, decide_eq_true_eq, decide_eq_false_iff_not, beq_iff_eq, bne_iff_ne, ne_eq, beq_eq_false_iff_ne, bne_eq_false_iff_eq, gt_iff_lt, ge_iff_le]; omega) | (simp; omega)); rfl)
            | ((with_reducible apply wpL_cmp); rfl; rfl; rfl; rfl; rfl)
            | ((with_reducible apply wpL_arith); rfl; rfl; rfl; (exact IntWalk.i64_in _ (by (try simp only [arithI]); omega)); rfl)); (try simp only [arithI, Act.put, Act.eval, List.setIfInBounds_toArray, List.set_cons_succ, List.set_cons_zero, Array.getD_eq_getD_getElem?, List.getElem?_toArray, List.getElem?_cons_succ, List.getElem?_cons_zero, Option.getD_some])))
      refine wp_region_tailQ 10 (by kernel_rfl) (by kernel_rfl) (by kernel_rfl) HH.out ?_
      simp only [List.take_succ_cons, List.take_zero, List.drop_succ_cons, List.drop_zero]
      repeat ((first
        | ((with_reducible apply wpQ_skip); rfl; skip)
        | ((with_reducible apply wpQ_nilCheck); rfl; rfl)
        | ((with_reducible apply wpQ_fieldAddr (t := 118)); (first | exact F118_0 | exact F118_1 | exact F118_2 | exact F118_3); rfl; rfl)
        | ((with_reducible apply wpQ_loadPart (vs := s'.ws.map wrd) A115); rfl; (exact .here); rfl; rfl; rfl)
        | ((with_reducible apply wpQ_call (v := valW (loadL l')) (args := #[.slice al l'.length cl]) B80); rfl; (intro wq hwq; exact (load_any wq _ l' (HE.out.byts hwq hwq.memEx) hlt).mono fun e w' ⟨he, hb⟩ => ⟨he, hwq.grow hb⟩); rfl)
        | ((with_reducible apply wpQ_call (v := valW (processS s' (loadL l')).ws) (args := #[valW s'.ws, valW (loadL l')]) B79); rfl; (intro wq hwq; exact (process_any wq s' (loadL l') rfl).mono fun e w' ⟨he, hb⟩ => ⟨he, hwq.grow hb⟩); rfl)
        | ((with_reducible apply wpQ_move); rfl; rfl)
        | ((with_reducible apply wpQ_assign); rfl; rfl)
        | ((with_reducible apply wpQ_pick); rfl; rfl; rfl)
        | ((with_reducible apply wpQ_not); rfl; rfl)
        | ((with_reducible apply wpQ_cmp (b := true)); rfl; rfl; rfl; (first | rfl | assumption | (simp only [cmpB, decide_eq_true_eq, decide_eq_false_iff_not, beq_iff_eq, bne_iff_ne, ne_eq, beq_eq_false_iff_ne, bne_eq_false_iff_eq, gt_iff_lt, ge_iff_le]; omega) | (simp; omega)); rfl)
        | ((with_reducible apply wpQ_cmp (b := false)); rfl; rfl; rfl; (first | rfl | assumption | (simp only [cmpB, decide_eq_true_eq, decide_eq_false_iff_not, beq_iff_eq, bne_iff_ne, ne_eq, beq_eq_false_iff_ne, bne_eq_false_iff_eq, gt_iff_lt, ge_iff_le]; omega) | (simp; omega)); rfl)
        | ((with_reducible apply wpQ_cmp); rfl; rfl; rfl; rfl; rfl)
        | ((with_reducible apply wpQ_arith); rfl; rfl; rfl; (exact IntWalk.i64_in _ (by (try simp only [arithI]); omega)); rfl)); simp only [arithI, Act.put, Act.eval, List.setIfInBounds_toArray, List.set_cons_succ, List.set_cons_zero, Array.getD_eq_getD_getElem?, List.getElem?_toArray, List.getElem?_cons_succ, List.getElem?_cons_zero, Option.getD_some])
      refine wpQuiet_nil ?_
      intro wq hq_
      have HQ := hid hq_
      clear hq_
      clear HH
      have HH := HQ
      clear HQ
      go_wp2_with (first
        | ((first
            | ((with_reducible apply wpL_skip); rfl; skip)
            | ((with_reducible apply wpL_storePart (vs := (processS s' (loadL l')).ws.map wrd) (sz := 8)); rfl; rfl; rfl; (exact S115); (exact HH.out); (exact .here); rfl; (exact wrd_one _); (exact (by simp [hcells, St.ws])); rfl; (intro w_ hq_; (have hq2_ : Holds w [g] ((g, objC (hcells (blockS s' (l'.take 64)) (.slice ar r.length cr) n) 118) :: ex) [] w_ := by rw [← HPB.out]; exact hq_); clear HH hq_; have HH := hid hq2_; clear hq2_))
            | ((with_reducible apply wpL_sliceFromB (j := 64)); rfl; rfl; rfl; (exact hlt); rfl)
            | ((with_reducible apply wpL_move); rfl; rfl)
            | ((with_reducible apply wpL_assign); rfl; rfl)
            | ((with_reducible apply wpL_pick); rfl; rfl; rfl)
            | ((with_reducible apply wpL_not); rfl; rfl)
            | ((with_reducible apply wpL_cmp (b := true)); rfl; rfl; rfl; (first | rfl | assumption | (simp only [cmpB, decide_eq_true_eq, decide_eq_false_iff_not, beq_iff_eq, bne_iff_ne, ne_eq, beq_eq_false_iff_ne, bne_eq_false_iff_eq, gt_iff_lt, ge_iff_le]; omega) | (simp; omega)); rfl)
            | ((with_reducible apply wpL_cmp (b := false)); rfl; rfl; rfl; (first | rfl | assumption | (simp only [cmpB, decide_eq_true_eq, decide_eq_false_iff_not, beq_iff_eq, bne_iff_ne, ne_eq, beq_eq_false_iff_ne, bne_eq_false_iff_eq, gt_iff_lt, ge_iff_le]; omega) | (simp; omega)); rfl)
            | ((with_reducible apply wpL_cmp); rfl; rfl; rfl; rfl; rfl)
            | ((with_reducible apply wpL_arith); rfl; rfl; rfl; (exact IntWalk.i64_in _ (by (try simp only [arithI]); omega)); rfl)); (try simp only [arithI, Act.put, Act.eval, List.setIfInBounds_toArray, List.set_cons_succ, List.set_cons_zero, Array.getD_eq_getD_getElem?, List.getElem?_toArray, List.getElem?_cons_succ, List.getElem?_cons_zero, Option.getD_some])))
      go_roundw
      case rel => exact ⟨blockS s' (l'.take 64), l'.drop 64, by rw [HAB.out, hst.out], HE.out.drop hlt, HH.out⟩
      case measure => simp [lenV]; omega
    · have hdn := hid (absorb_done (s := s') hlt)
      go_wp2_with (first
        | ((first
            | ((with_reducible apply wpL_skip); rfl; skip)
            | ((with_reducible apply wpL_nilCheck); rfl; rfl)
            | ((with_reducible apply wpL_fieldAddr (t := 118)); (first | exact F118_0 | exact F118_1 | exact F118_2 | exact F118_3); rfl; rfl)
            | ((with_reducible apply wpL_store1 (v := .slice al l'.length cl) (cs := hcells s' (.slice ar r.length cr) n)); rfl; rfl; rfl; (exact S22); (exact HH.out); (exact .here); rfl; (exact (by simp [hcells, St.ws])); rfl; (intro w_ hq_; (have hq2_ : Holds w [g] ((g, objC (hcells s' (.slice al l'.length cl) n) 118) :: ex) [] w_ := hq_); clear HH hq_; have HH := hid hq2_; clear hq2_))
            | ((with_reducible apply wpL_move); rfl; rfl)
            | ((with_reducible apply wpL_assign); rfl; rfl)
            | ((with_reducible apply wpL_pick); rfl; rfl; rfl)
            | ((with_reducible apply wpL_not); rfl; rfl)
            | ((with_reducible apply wpL_cmp (b := true)); rfl; rfl; rfl; (first | rfl | assumption | (simp only [cmpB, decide_eq_true_eq, decide_eq_false_iff_not, beq_iff_eq, bne_iff_ne, ne_eq, beq_eq_false_iff_ne, bne_eq_false_iff_eq, gt_iff_lt, ge_iff_le]; omega) | (simp; omega)); rfl)
            | ((with_reducible apply wpL_cmp (b := false)); rfl; rfl; rfl; (first | rfl | assumption | (simp only [cmpB, decide_eq_true_eq, decide_eq_false_iff_not, beq_iff_eq, bne_iff_ne, ne_eq, beq_eq_false_iff_ne, bne_eq_false_iff_eq, gt_iff_lt, ge_iff_le]; omega) | (simp; omega)); rfl)
            | ((with_reducible apply wpL_cmp); rfl; rfl; rfl; rfl; rfl)
            | ((with_reducible apply wpL_arith); rfl; rfl; rfl; (exact IntWalk.i64_in _ (by (try simp only [arithI]); omega)); rfl)); (try simp only [arithI, Act.put, Act.eval, List.setIfInBounds_toArray, List.set_cons_succ, List.set_cons_zero, Array.getD_eq_getD_getElem?, List.getElem?_toArray, List.getElem?_cons_succ, List.getElem?_cons_zero, Option.getD_some])))
      refine bodyPost_end (results_none rfl _ _ _) rfl ⟨rfl, ?_⟩
      have e := HAB.out
      rw [hdn.out] at e
      rw [e]
      exact ⟨_, ex, HE.out, fun p hp => ⟨HXB.out p hp, HH.out.blk p (List.mem_cons_of_mem _ hp)⟩, HXN.out, HH.out.turned .here⟩
end Go.Proofs.Ytgkfopodhikckaa

/- New, Write, Len, Clone of sha256's Hash. Condition: at most a million bytes. -/
namespace Go.Proofs.Ytgkfopodhikckaa
open Go.RowKit
theorem Holds.hashBy {w0 w w' : World} {S : List Nat} {bs : List (Nat × Obj)} {rows : List Row} {g n : Nat} {o : Obj} {s : St} {r : List UInt8} (h : Holds w0 S bs rows w) (ho : Own bs g o) (hT : ∀ o', ∃ bs', Turn bs g o o' bs') (hH : HashOut w g s r n w') :
    ∃ rv ex bs', Turn bs g o (objC (hcells s rv n) 118) bs' ∧ RestEx ex rv r ∧ (∀ p ∈ ex, w.heap.size ≤ p.1) ∧ (ex.map (·.1)).Nodup ∧ Holds w0 S (bs' ++ ex) rows w' := by
  obtain ⟨rv, ex, hre, hex, hnd, ht⟩ := hH
  obtain ⟨bs', hturn⟩ := hT (objC (hcells s rv n) 118)
  refine ⟨rv, ex, bs', hturn, hre, fun p hp => (hex p hp).1, hnd, ?_⟩
  refine Holds.addBlks (h.turnedBy hturn ht) ht.size ?_ (fun q hq k hk => (h.rowlt hq k hk).2) h.size hex hnd
  obtain ⟨pre, post, rfl, rfl⟩ := hturn.split
  intro p hp
  have : ∃ q ∈ pre ++ (g, o) :: post, q.1 = p.1 := by
    rcases List.mem_append.1 hp with a | a
    · exact ⟨p, List.mem_append.2 (.inl a), rfl⟩
    · rcases List.mem_cons.1 a with rfl | a
      · exact ⟨(g, o), by simp, rfl⟩
      · exact ⟨p, List.mem_append.2 (.inr (List.mem_cons_of_mem _ a)), rfl⟩
  obtain ⟨q, hq, e⟩ := this
  rw [← e]
  exact h.lt hq
theorem Holds.oldCell {w w' : World} {bs : List (Nat × Obj)} {rows : List Row} (h : Holds w [] bs rows w') {g j : Nat} {cs : List Value} {e : TypeId} {v : Value} (hg : w.heap[g]? = some (objC cs e)) (hv : cs[j]? = some v) : w'.cell? ⟨g, j, none⟩ = some v := by
  have hlt := (Array.getElem?_eq_some_iff.1 hg).1
  simp [World.cell?, h.old g hlt (by simp), hg, objC, hv]
theorem wpL_loadAt {w : World} {ops : Array Oper} {rest : List Oper} {a : Act} {dst : Option Tmp} {ty : TypeId} {pos : String} {after : Array Edge} {guard : Option (Nat × Bool)} {Q : Exit → Act → World → Prop} {P : Program} {t : TypeId} (hA : OneT P t) {x : Operand} {ad : Addr} {v : Value} (hc : w.cell? ad = some v) (hx : a.eval x = .pointer (some ad))
    (hg : Region.wanted { dst := dst, op := .load t x, type := ty, pos := pos, after := after, guard := guard } (yielded ops a.tmps) = true)
    (h : wpList P ops Q rest (a.put dst v) w) : wpList P ops Q ({ dst := dst, op := .load t x, type := ty, pos := pos, after := after, guard := guard } :: rest) a w := by
  obtain ⟨d, hu, hd⟩ := hA
  exact wpList_ex hg (ex_load_one (ρ := a.eval) hx hu hd hc) h
def zh : List Value := (List.replicate 8 (0 : W32)).map wrd ++ [.slice none 0 0, .int .i64 0, .bool false]
theorem Z118 : (Try.prog.info? 118).map (·.zero) = some (some (.agg zh.toArray)) := by kernel_rfl
theorem A118 : AggT Try.prog 118 11 := ⟨_, Try.underlying118, rfl, by kernel_rfl⟩
theorem S118 : (Try.prog.info? 118).map (·.size) = some 11 := by kernel_rfl
theorem hcells_one {s : St} {ao : Option Addr} {k c n : Nat} : ∀ u ∈ hcells s (.slice ao k c) n, u.oneCell' = true := by
  intro u hu
  simp only [hcells, List.mem_append, List.mem_cons, List.not_mem_nil, or_false] at hu
  rcases hu with hu | rfl | rfl | rfl
  · exact wrd_one _ u hu
  · rfl
  · rfl
  · rfl
/-- A new Hash. -/
def NewOut (w : World) (s : St) (r : List UInt8) (n : Nat) (e : Ending) (w' : World) : Prop :=
  ∃ g rv ex, e = .returned (.pointer (some ⟨g, 0, none⟩)) ∧ RestEx ex rv r ∧ (∀ p ∈ (g, objC (hcells s rv n) 118) :: ex, w.heap.size ≤ p.1 ∧ w'.heap[p.1]? = some p.2) ∧ (((g, objC (hcells s rv n) 118) :: ex).map (·.1)).Nodup ∧ Below w.heap.size w w'
theorem Holds.newBy {w0 w w' : World} {S : List Nat} {bs ex : List (Nat × Obj)} {rows : List Row} (h : Holds w0 S bs rows w) (hex : ∀ p ∈ ex, w.heap.size ≤ p.1 ∧ w'.heap[p.1]? = some p.2) (hnd : (ex.map (·.1)).Nodup) (hb : Below w.heap.size w w') : Holds w0 S (bs ++ ex) rows w' :=
  Holds.addBlks (h.grow hb) hb.size (fun p hp => h.lt hp) (fun q hq k hk => (h.rowlt hq k hk).2) h.size hex hnd
set_option maxRecDepth 100000 in
set_option maxHeartbeats 2000000 in
theorem new_any (w : World) : Calls Try.prog 32 #[] w (NewOut w initS [] 0) := by
  have HH := hid (Holds.init w)
  go_enter Try.func32, Try.ntmps32
  go_wp2_with (first
    | ((first
        | ((with_reducible apply wpL_skip); rfl; skip)
        | (go_at_call 63; refine (initial_any _).mono ?_; rintro e w2 ⟨rfl, hb⟩; (have hq_ := HH.out.grow hb); clear HH; have HH := hid hq_; clear hq_ hb)
        | ((with_reducible apply wpList_build (v := .agg (hcells initS (.slice none 0 0) 0).toArray)); (exact build118 initS); rfl)
        | ((with_reducible apply wpL_boxC (cs := hcells initS (.slice none 0 0) 0)); rfl; (exact HH.out); rfl; (intro g_ w_ hq_; clear HH; have HH := hid hq_; clear hq_))
        | ((with_reducible apply wpL_move); rfl; rfl)
        | ((with_reducible apply wpL_assign); rfl; rfl)
        | ((with_reducible apply wpL_pick); rfl; rfl; rfl)
        | ((with_reducible apply wpL_not); rfl; rfl)
        | ((with_reducible apply wpL_cmp (b := true)); rfl; rfl; rfl; (first | rfl | assumption | (simp only [cmpB, decide_eq_true_eq, decide_eq_false_iff_not, beq_iff_eq, bne_iff_ne, ne_eq, beq_eq_false_iff_ne, bne_eq_false_iff_eq, gt_iff_lt, ge_iff_le]; omega) | (simp; omega)); rfl)
        | ((with_reducible apply wpL_cmp (b := false)); rfl; rfl; rfl; (first | rfl | assumption | (simp only [cmpB, decide_eq_true_eq, decide_eq_false_iff_not, beq_iff_eq, bne_iff_ne, ne_eq, beq_eq_false_iff_ne, bne_eq_false_iff_eq, gt_iff_lt, ge_iff_le]; omega) | (simp; omega)); rfl)
        | ((with_reducible apply wpL_cmp); rfl; rfl; rfl; rfl; rfl)
        | ((with_reducible apply wpL_arith); rfl; rfl; rfl; (exact IntWalk.i64_in _ (by (try simp only [arithI]); omega)); rfl)); (try simp only [arithI, Act.put, Act.eval, List.setIfInBounds_toArray, List.set_cons_succ, List.set_cons_zero, Array.getD_eq_getD_getElem?, List.getElem?_toArray, List.getElem?_cons_succ, List.getElem?_cons_zero, Option.getD_some])))
  go_ret
  refine ⟨g_, .slice none 0 0, [], rfl, RestEx.nil _, ?_, by simp, HH.out.below⟩
  intro p hp
  rw [List.mem_singleton.1 hp]
  exact ⟨(HH.out.frs _ List.mem_cons_self).resolve_right (by simp), HH.out.blk _ List.mem_cons_self⟩
set_option maxRecDepth 100000 in
set_option maxHeartbeats 2000000 in
theorem write_any (w : World) (g : Nat) (s : St) (rv vb : Value) (r b : List UInt8) (n : Nat) (hg : w.heap[g]? = some (objC (hcells s rv n) 118)) (hr : Byts w rv r) (hb : Byts w vb b) (hn : r.length + b.length ≤ 1000000) (hn2 : n ≤ 1000000000) :
    Calls Try.prog 34 #[.pointer (some ⟨g, 0, none⟩), vb] w (fun e w' => e = .returned (.int .i64 0) ∧ HashOut w g (absorb s (r ++ b)).1 (absorb s (r ++ b)).2 (n + b.length) w') := by
  obtain ⟨ab, cb, rfl, _⟩ := hb.shape
  have HH := hid (Holds.initS hg)
  have HG := hid hg
  have HR := hid hr
  have HB := hid hb
  clear hg hr hb
  go_enter Try.func34, Try.ntmps34
  go_wp2_with (first
    | ((first
        | ((with_reducible apply wpL_skip); rfl; skip)
        | (go_at_call 64; refine (take_any _ g s rv _ r b n HG.out HR.out HB.out hn).mono ?_; rintro e w2 ⟨rfl, hb⟩; (obtain ⟨rv2, ex, bs2, hturn, hre, hexb, hexn, hq_⟩ := HH.out.hashBy .here (fun o' => ⟨_, .here⟩) hb); (rcases hturn with _ | ⟨⟨⟩⟩); (have hq2_ : Holds w [g] ((g, objC (hcells (absorb s (r ++ b)).1 rv2 n) 118) :: ex) [] w2 := hq_); clear HH hq_ hb; have HH := hid hq2_; clear hq2_; have HE := hid hre; have HXB := hid hexb; have HXN := hid hexn; clear hre hexb hexn)
        | ((with_reducible apply wpL_nilCheck); rfl; rfl)
        | ((with_reducible apply wpL_fieldAddr (t := 118)); (first | exact F118_0 | exact F118_1 | exact F118_2 | exact F118_3); rfl; rfl)
        | ((with_reducible apply wpL_load1 (v := .int .i64 n) O3 HH.out); rfl; (exact .here); rfl; rfl)
        | ((with_reducible apply wpL_store1 (v := .int .i64 ((n + b.length : Nat) : Int)) (cs := hcells (absorb s (r ++ b)).1 rv2 n)); rfl; rfl; rfl; (exact S3); (exact HH.out); (exact .here); rfl; (exact (by simp [hcells, St.ws])); rfl; (intro w_ hq_; (have hq2_ : Holds w [g] ((g, objC (hcells (absorb s (r ++ b)).1 rv2 (n + b.length)) 118) :: ex) [] w_ := hq_); clear HH hq_; have HH := hid hq2_; clear hq2_))
        | ((with_reducible apply wpL_move); rfl; rfl)
        | ((with_reducible apply wpL_assign); rfl; rfl)
        | ((with_reducible apply wpL_pick); rfl; rfl; rfl)
        | ((with_reducible apply wpL_not); rfl; rfl)
        | ((with_reducible apply wpL_cmp (b := true)); rfl; rfl; rfl; (first | rfl | assumption | (simp only [cmpB, decide_eq_true_eq, decide_eq_false_iff_not, beq_iff_eq, bne_iff_ne, ne_eq, beq_eq_false_iff_ne, bne_eq_false_iff_eq, gt_iff_lt, ge_iff_le]; omega) | (simp; omega)); rfl)
        | ((with_reducible apply wpL_cmp (b := false)); rfl; rfl; rfl; (first | rfl | assumption | (simp only [cmpB, decide_eq_true_eq, decide_eq_false_iff_not, beq_iff_eq, bne_iff_ne, ne_eq, beq_eq_false_iff_ne, bne_eq_false_iff_eq, gt_iff_lt, ge_iff_le]; omega) | (simp; omega)); rfl)
        | ((with_reducible apply wpL_cmp); rfl; rfl; rfl; rfl; rfl)
        | ((with_reducible apply wpL_arith); rfl; rfl; rfl; (exact IntWalk.i64_in _ (by (try simp only [arithI]); omega)); rfl)); (try simp only [arithI, Act.put, Act.eval, List.setIfInBounds_toArray, List.set_cons_succ, List.set_cons_zero, Array.getD_eq_getD_getElem?, List.getElem?_toArray, List.getElem?_cons_succ, List.getElem?_cons_zero, Option.getD_some])))
  go_ret
  exact ⟨rfl, rv2, ex, HE.out, fun p hp => ⟨HXB.out p hp, HH.out.blk p (List.mem_cons_of_mem _ hp)⟩, HXN.out, HH.out.turned .here⟩
set_option maxRecDepth 100000 in
set_option maxHeartbeats 2000000 in
theorem clone_any (w : World) (g : Nat) (s : St) (rv : Value) (r : List UInt8) (n : Nat) (hg : w.heap[g]? = some (objC (hcells s rv n) 118)) (hr : Byts w rv r) (hn : r.length ≤ 1000000) :
    Calls Try.prog 40 #[.pointer (some ⟨g, 0, none⟩)] w (NewOut w s r n) := by
  obtain ⟨ar, cr, rfl, _⟩ := hr.shape
  have HH := hid (Holds.init w)
  have HG := hid hg
  have HR := hid hr
  clear hg hr
  go_enter Try.func40, Try.ntmps40
  go_wp2_with (first
    | ((first
        | ((with_reducible apply wpL_skip); rfl; skip)
        | ((with_reducible apply wpL_nilCheck); rfl; rfl)
        | ((with_reducible apply wpList_load_agg (t := 118) (x := .tmp 7) A118 (cs := hcells s (.slice ar r.length cr) n) rfl (show ∀ j u, (hcells s (.slice ar r.length cr) n)[j]? = some u → w.cell? ((⟨g, 0, none⟩ : Addr).add j) = some u from fun j u hu => by rw [show (⟨g, 0, none⟩ : Addr).add j = ⟨g, j, none⟩ by unfold Addr.add; split <;> simp_all]; simp [World.cell?, HG.out, objC, hu])); rfl; rfl)
        | ((with_reducible apply wpL_allocC Z118 HH.out); rfl; (intro g2 w_ hq_; clear HH; have HH := hid hq_; clear hq_))
        | ((with_reducible apply wpL_storeC (vs := hcells s (.slice ar r.length cr) n) (x := .tmp 3) (sz := 11)); rfl; rfl; (exact S118); (exact HH.out); (exact .here); rfl; (exact hcells_one); rfl; rfl; (intro w_ hq_; clear HH; have HH := hid hq_; clear hq_))
        | ((with_reducible apply wpL_buildB []); rfl; rfl; (exact (by omega)); (exact HH.out); rfl; (intro g_ w_ hq_; clear HH; have HH := hid hq_; clear hq_))
        | ((with_reducible apply wpL_fieldAddr (t := 118)); (first | exact F118_0 | exact F118_1 | exact F118_2 | exact F118_3); rfl; rfl)
        | ((with_reducible apply wpL_loadAt O22 (HH.out.oldCell HG.out (j := 8) (v := .slice ar r.length cr) rfl)); rfl; rfl)
        | ((with_reducible apply wpL_appendB (l := []) (l2 := r) HH.out (HH.out.sl HR.out)); rfl; rfl; (exact (by simp; omega)); rfl; rfl; rfl; (intro ao1 cap1 w_ hq_; clear HH; have HH := hid hq_; clear hq_))
        | ((with_reducible apply wpL_store1 (v := .slice ao1 r.length cap1) (cs := hcells s (.slice ar r.length cr) n)); rfl; rfl; rfl; (exact S22); (exact HH.out); (exact .here); rfl; (exact (by simp [hcells, St.ws])); rfl; (intro w_ hq_; (have hq2_ : Holds w [] [(g2, objC (hcells s (.slice ao1 r.length cap1) n) 118)] [rowB ao1 cap1 r] w_ := hq_); clear HH hq_; have HH := hid hq2_; clear hq2_))
        | ((with_reducible apply wpL_move); rfl; rfl)
        | ((with_reducible apply wpL_assign); rfl; rfl)
        | ((with_reducible apply wpL_pick); rfl; rfl; rfl)
        | ((with_reducible apply wpL_not); rfl; rfl)
        | ((with_reducible apply wpL_cmp (b := true)); rfl; rfl; rfl; (first | rfl | assumption | (simp only [cmpB, decide_eq_true_eq, decide_eq_false_iff_not, beq_iff_eq, bne_iff_ne, ne_eq, beq_eq_false_iff_ne, bne_eq_false_iff_eq, gt_iff_lt, ge_iff_le]; omega) | (simp; omega)); rfl)
        | ((with_reducible apply wpL_cmp (b := false)); rfl; rfl; rfl; (first | rfl | assumption | (simp only [cmpB, decide_eq_true_eq, decide_eq_false_iff_not, beq_iff_eq, bne_iff_ne, ne_eq, beq_eq_false_iff_ne, bne_eq_false_iff_eq, gt_iff_lt, ge_iff_le]; omega) | (simp; omega)); rfl)
        | ((with_reducible apply wpL_cmp); rfl; rfl; rfl; rfl; rfl)
        | ((with_reducible apply wpL_arith); rfl; rfl; rfl; (exact IntWalk.i64_in _ (by (try simp only [arithI]); omega)); rfl)); (try simp only [arithI, Act.put, Act.eval, List.setIfInBounds_toArray, List.set_cons_succ, List.set_cons_zero, Array.getD_eq_getD_getElem?, List.getElem?_toArray, List.getElem?_cons_succ, List.getElem?_cons_zero, Option.getD_some])))
  go_ret
  obtain ⟨ex, hre, hexb, hexn, hh⟩ := HH.out.rowEx
  have hnd := (List.nodup_append.1 hh.sep).1
  refine ⟨g2, _, ex, rfl, hre, fun p hp => ⟨(hh.frs p hp).resolve_right (by simp), hh.blk p hp⟩, hnd, hh.below⟩
end Go.Proofs.Ytgkfopodhikckaa

/- The library's Builder: what a caller's memory holds behind WriteByte. Condition: at most a million bytes. -/
namespace Go.Proofs.Ytgkfopodhikckaa
open Go.RowKit
section
variable {w w0 : World} {S : List Nat} {bs bs' : List (Nat × Obj)} {rows : List Row} {ops : Array Oper} {rest : List Oper} {a : Act} {dst : Option Tmp} {ty : TypeId} {pos : String} {after : Array Edge} {guard : Option (Nat × Bool)} {Q : Exit → Act → World → Prop}
end
@[reducible] def selfP (b : Nat) : Value := .pointer (some ⟨b, 0, none⟩)
end Go.Proofs.Ytgkfopodhikckaa

/- The library's Builder handed back as a string; Hex of ascii, String of a digest. Condition: some bytes, at most half a million. -/
namespace Go.Proofs.Ytgkfopodhikckaa
open Go.RowKit
section
variable {w w0 : World} {S : List Nat} {bs bs' : List (Nat × Obj)} {rows : List Row} {ops : Array Oper} {rest : List Oper} {a : Act} {dst : Option Tmp} {ty : TypeId} {pos : String} {after : Array Edge} {guard : Option (Nat × Bool)} {Q : Exit → Act → World → Prop} {P : Program} {C : World → Prop} {K : Act → Prop}
theorem Holds.lostRow {r : Row} (h : Holds w0 S bs (r :: rows) w) {w' : World} (hg : w.grownBy w' r.v.ownBlock) : Holds w0 S bs rows w' :=
  (Holds.grownRow (v' := .slice none 0 0) (n' := 0) (xs' := []) h hg (.inr fun k hk => by simp [Value.ownBlock] at hk) (World.ownsRow_nil _ _ _ _)).dropRow
end
end Go.Proofs.Ytgkfopodhikckaa

/- Strings and bytes: indexed, held against each other, made of bytes. Over any program. No condition. -/
namespace Go.Proofs.Ytgkfopodhikckaa
open Go.RowKit
section
variable {P : Program} {w : World} {ρ : Operand → Value} {dst : Option Tmp} {ty : TypeId} {pos : String} {after : Array Edge} {guard : Option (Nat × Bool)}
end
theorem bits_and (k : IntKind) (x y : Nat) (hx : x < 2 ^ k.bits) (hy : y < 2 ^ k.bits) : (BitVec.ofInt k.bits (x : Int) &&& BitVec.ofInt k.bits (y : Int)).toNat = x &&& y := by
  rw [BitVec.toNat_and, BitVec.ofInt_natCast, BitVec.ofInt_natCast, BitVec.toNat_ofNat, BitVec.toNat_ofNat, Nat.mod_eq_of_lt hx, Nat.mod_eq_of_lt hy]
section
variable {P : Program} {w : World} {ρ : Operand → Value} {dst : Option Tmp} {ty : TypeId} {pos : String} {after : Array Edge} {guard : Option (Nat × Bool)}
theorem ex_and {t yt : TypeId} {x y : Operand} {k : IntKind} {p q : Int} {m n : Nat} {r : Nat} (hx : ρ x = .int k p) (hy : ρ y = .int k q) (hp : p = (m : Int)) (hq : q = (n : Int)) (hm : m < 2 ^ k.bits) (hn : n < 2 ^ k.bits) (hr : m &&& n = r) (hw : k.wrap (r : Int) = (r : Int)) (w : World) :
    (execOp ρ { dst := dst, op := .binOp .and t x y yt, type := ty, pos := pos, after := after, guard := guard }).run P w = .ok (.value (.int k (r : Int))) w := by
  subst hp hq hr
  have he : ∀ u v, eqGuard .and t x y u v = pure () := fun _ _ => rfl
  have hr : (binOp .and t (.int k (m : Int)) (.int k (n : Int))).run P w = .ok (.int k ((m &&& n : Nat) : Int)) w := by
    have e : binOp .and t (.int k (m : Int)) (.int k (n : Int)) = Op.intBits .and k (m : Int) (n : Int) := by cases k <;> rfl
    rw [e]
    simp only [Op.intBits, Sem.run_pure]
    rw [bits_and k m n hm hn, hw]
  simp only [execOp, hx, hy, Sem.run_bind, he, Sem.run_pure, Result.andThen_ok, hr]
end
section
variable {P : Program} {ops : Array Oper} {rest : List Oper} {a : Act} {dst : Option Tmp} {ty : TypeId} {pos : String} {after : Array Edge} {guard : Option (Nat × Bool)} {C : World → Prop} {K : Act → Prop} {w : World} {Q : Exit → Act → World → Prop}
theorem wpL_and {t yt : TypeId} {x y : Operand} {k : IntKind} {p q : Int} {m n : Nat} {r : Nat} (hx : a.eval x = .int k p) (hy : a.eval y = .int k q) (hp : p = (m : Int)) (hq : q = (n : Int)) (hm : m < 2 ^ k.bits) (hn : n < 2 ^ k.bits) (hr : m &&& n = r) (hw : k.wrap (r : Int) = (r : Int))
    (hg : Region.wanted { dst := dst, op := .binOp .and t x y yt, type := ty, pos := pos, after := after, guard := guard } (yielded ops a.tmps) = true)
    (h : wpList P ops Q rest (a.put dst (.int k (r : Int))) w) : wpList P ops Q ({ dst := dst, op := .binOp .and t x y yt, type := ty, pos := pos, after := after, guard := guard } :: rest) a w :=
  wpList_ex hg (ex_and (ρ := a.eval) hx hy hp hq hm hn hr hw w) h
end
end Go.Proofs.Ytgkfopodhikckaa

/- Hex of ascii, String of a digest. Condition: some bytes, at most two hundred thousand. -/
namespace Go.Proofs.Ytgkfopodhikckaa
open Go.RowKit
section
variable {P : Program} {ops : Array Oper} {rest : List Oper} {a : Act} {dst : Option Tmp} {ty : TypeId} {pos : String} {after : Array Edge} {guard : Option (Nat × Bool)} {w w0 : World} {S : List Nat} {bs : List (Nat × Obj)} {rows : List Row} {Q : Exit → Act → World → Prop} {C : World → Prop} {K : Act → Prop}
theorem wpL_idxB {t e : TypeId} {bytes : Nat} (hE : Elem P t e 1 bytes) {x i : Operand} {ad : Addr} {n c j : Nat} {q : Int} {k : IntKind} (hx : a.eval x = .slice (some ad) n c) (hi : a.eval i = .int k q) (hq : q = (j : Int)) (hj : j < n)
    (hg : Region.wanted { dst := dst, op := .indexAddr t x i, type := ty, pos := pos, after := after, guard := guard } (yielded ops a.tmps) = true)
    (h : wpList P ops Q rest (a.put dst (.pointer (some (ad.add j)))) w) : wpList P ops Q ({ dst := dst, op := .indexAddr t x i, type := ty, pos := pos, after := after, guard := guard } :: rest) a w :=
  wpList_ex hg (ex_index (ρ := a.eval) hE hx hi hq hj w) (by rw [Nat.mul_one]; exact h)
theorem wpL_idx {t e : TypeId} {sz bytes : Nat} (hE : Elem P t e sz bytes) {x i : Operand} {ad : Addr} {n c j : Nat} {q : Int} {k : IntKind} (hx : a.eval x = .slice (some ad) n c) (hi : a.eval i = .int k q) (hq : q = (j : Int)) (hj : j < n)
    (hg : Region.wanted { dst := dst, op := .indexAddr t x i, type := ty, pos := pos, after := after, guard := guard } (yielded ops a.tmps) = true)
    (h : wpList P ops Q rest (a.put dst (.pointer (some (ad.add (j * sz))))) w) : wpList P ops Q ({ dst := dst, op := .indexAddr t x i, type := ty, pos := pos, after := after, guard := guard } :: rest) a w :=
  wpList_ex hg (ex_index (ρ := a.eval) hE hx hi hq hj w) h
theorem Holds.addNil (h : Holds w0 S bs rows w) (e : TypeId) (sz : Nat) : Holds w0 S bs (⟨.slice none 0 0, e, sz, 0, []⟩ :: rows) w :=
  h.addRow (Below.refl _ _) (World.ownsRow_nil _ _ _ _)
/-- A whole array that lies in a block of the call's own, taken as a slice. -/
theorem Byts.ofArr {n : Nat} {x : Arr n} (h : Holds w0 S bs rows w) {g : Nat} {e : TypeId} (ho : Own bs g (objC x.cells e)) {m cap : Nat} (hm : m ≤ n) (hc : m ≤ cap) : Byts w (.slice (some ⟨g, 0, none⟩) m cap) (x.1.take m) := by
  have hl : (x.1.take m).length = m := by rw [List.length_take, x.2]; omega
  refine ⟨_, cap, by rw [hl], by omega, by simp, fun j u hu => ⟨_, rfl, ?_⟩⟩
  have hadd : (⟨g, 0, none⟩ : Addr).add j = ⟨g, j, none⟩ := by unfold Addr.add; split <;> simp_all
  rw [hadd, cell_own h ho j, List.getElem?_toArray]
  rw [List.map_take, List.getElem?_take] at hu
  split at hu
  · exact hu
  · cases hu
theorem Byts.ofArrAll {n : Nat} {x : Arr n} (h : Holds w0 S bs rows w) {g : Nat} {e : TypeId} (ho : Own bs g (objC x.cells e)) : Byts w (.slice (some ⟨g, 0, none⟩) n n) x.1 := by
  have := Byts.ofArr h ho (Nat.le_refl n) (Nat.le_refl n)
  rwa [List.take_of_length_le (by rw [x.2]; omega)] at this
theorem wpL_sliceArrTo {t e : TypeId} {n sz : Nat} (ht : P.underlying t = some (.array n e)) (hz : (P.info? e).map (·.size) = some sz) {x hi : Operand} {g m : Nat} {k : IntKind} {q : Int} (hx : a.eval x = .pointer (some ⟨g, 0, none⟩)) (hh : a.eval hi = .int k q) (hq : q = (m : Int)) (hm : m ≤ n)
    (hg : Region.wanted { dst := dst, op := .slice t x none (some hi) none, type := ty, pos := pos, after := after, guard := guard } (yielded ops a.tmps) = true)
    (h : wpList P ops Q rest (a.put dst (.slice (some ⟨g, 0, none⟩) m n)) w) : wpList P ops Q ({ dst := dst, op := .slice t x none (some hi) none, type := ty, pos := pos, after := after, guard := guard } :: rest) a w := by
  subst hq
  refine wpList_ex hg ?_ h
  simp [execOp, hx, hh, Instr.sliceAt, Instr.slice, Instr.sliceBounds, Instr.sliceBound, asIntOf, run_underlying ht, run_sizeOf hz, Addr.add, Instr.sureAddr, hm]
end
end Go.Proofs.Ytgkfopodhikckaa

/- The plain law of the known digests: evaluated. No condition. -/
namespace Go.Proofs.Ytgkfopodhikckaa
def blocksP (p : List UInt8) : Nat → St
  | 0 => initS
  | t + 1 => processS (blocksP p t) (loadL (p.drop (64 * t)))
theorem blocksN_P (p : List UInt8) : ∀ t, blocksN p t = blocksP p t
  | 0 => rfl
  | t + 1 => by rw [blocksN, blocksP, blocksN_P p t, process_block]
theorem sumB_P (l : List UInt8) : sumB l = outB (blocksP (l ++ padL l.length) ((l ++ padL l.length).length / 64)) := by
  unfold sumB; rw [blocksN_P]
end Go.Proofs.Ytgkfopodhikckaa

/- Sum of sha256's Hash. Condition: at most a million bytes. -/
namespace Go.Proofs.Ytgkfopodhikckaa
open Go.RowKit
theorem Z25 : (Try.prog.info? 25).map (·.zero) = some (some (.agg z32.toArray)) := by kernel_rfl
theorem A25 : AggT Try.prog 25 32 := ⟨_, Try.underlying25, rfl, by kernel_rfl⟩
theorem S25 : (Try.prog.info? 25).map (·.size) = some 32 := by kernel_rfl
theorem outByte_at (s : St) (i c : Nat) (hc : c < 4) : outByte s (4 * i + c) = w2b (s.ws.getD i 0 >>> (24 - 8 * c)) := by
  unfold outByte
  rw [show (4 * i + c) / 4 = i by omega, show (4 * i + c) % 4 = c by omega]
def SPadRel1 (w : World) (n : Nat) (g2 gc : Nat) (o : Obj) (exc : List (Nat × Obj)) (v : Value) (wr : World) : Prop :=
  ∃ k : Nat, k ≤ padZ n ∧ ∃ ao cap, v = .slice ao (128 :: List.replicate k 0 : List UInt8).length cap ∧ Holds w [] ((g2, objC z32 25) :: (gc, o) :: exc) [rowB ao cap (128 :: List.replicate k 0)] wr
def SPadRel2 (w : World) (l : List UInt8) (n : Nat) (g2 gc : Nat) (o : Obj) (exc : List (Nat × Obj)) (v i : Value) (wr : World) : Prop :=
  ∃ j : Nat, j ≤ 8 ∧ i = .int .i64 (7 - j) ∧ ∃ ao cap, v = .slice ao (l ++ lenBs n j).length cap ∧ Holds w [] ((g2, objC z32 25) :: (gc, o) :: exc) [rowB ao cap (l ++ lenBs n j)] wr
def SOutRel (w : World) (h : St) (g2 g6 : Nat) (bs : List (Nat × Obj)) (rows : List Row) (i : Value) (wr : World) : Prop :=
  ∃ t : Nat, t ≤ 8 ∧ i = .int .i64 t ∧ Holds w [] ((g6, objC ((fillB (outByte h) 32 (4 * t)).map byt) 25) :: (g2, objC z32 25) :: bs) rows wr
theorem take_own (w0 w : World) (g2 gc : Nat) (o2 : Obj) (s : St) (rvc : Value) (n : Nat) (exc : List (Nat × Obj)) (ao : Option Addr) (cap : Nat) (r b : List UInt8)
    (h : Holds w0 [] ((g2, o2) :: (gc, objC (hcells s rvc n) 118) :: exc) [rowB ao cap b] w) (hre : RestEx exc rvc r) (hn : r.length + b.length ≤ 1000000) :
    Calls Try.prog 64 #[.pointer (some ⟨gc, 0, none⟩), .slice ao b.length cap] w (fun e w' => e = .returned (.tuple #[]) ∧ ∃ rv2 ex, Holds w0 [] ((g2, o2) :: (gc, objC (hcells (absorb s (r ++ b)).1 rv2 n) 118) :: (exc ++ ex)) [rowB ao cap b] w') := by
  have h1 : w.heap[gc]? = some (objC (hcells s rvc n) 118) := h.blk (gc, _) (List.mem_cons_of_mem _ List.mem_cons_self)
  have h2 : Byts w rvc r := hre.byts h fun q hq => List.mem_cons_of_mem _ (List.mem_cons_of_mem _ hq)
  have h3 : Byts w (.slice ao b.length cap) b := h.sl0
  refine (take_any w gc s rvc _ r b n h1 h2 h3 hn).mono fun e w' ⟨he, ho⟩ => ⟨he, ?_⟩
  obtain ⟨rv2, ex, bs2, hturn, _, _, _, hq⟩ := h.hashBy (.there .here) (fun o' => ⟨_, .there .here⟩) ho
  have e2 : ∀ {o' : Obj} {bs2}, Turn ((g2, o2) :: (gc, objC (hcells s rvc n) 118) :: exc) gc (objC (hcells s rvc n) 118) o' bs2 → g2 ≠ gc → bs2 = (g2, o2) :: (gc, o') :: exc ∨ ∃ l', Turn exc gc (objC (hcells s rvc n) 118) o' l' := by
    intro o' bs2 ht hne
    cases ht with
    | here => exact absurd rfl hne
    | there ht2 =>
      cases ht2 with
      | here => exact .inl rfl
      | there ht3 => exact .inr ⟨_, ht3⟩
  have hs := h.sep
  simp only [List.map_cons, List.cons_append, List.nodup_cons, List.mem_cons, List.mem_append, not_or] at hs
  rcases e2 hturn (fun e => hs.1.1 e) with rfl | ⟨l', ht⟩
  · exact ⟨rv2, ex, hq⟩
  · exact absurd (List.mem_map.2 ⟨_, ht.own.mem, rfl⟩) hs.2.1.1
set_option maxRecDepth 100000 in
set_option maxHeartbeats 4000000 in
theorem sum_any (w : World) (g : Nat) (s : St) (rv : Value) (r : List UInt8) (n : Nat) (hg : w.heap[g]? = some (objC (hcells s rv n) 118)) (hr : Byts w rv r) (hrl : r.length ≤ 1000000 - 1000) (hn : n ≤ 1000000) :
    Calls Try.prog 33 #[.pointer (some ⟨g, 0, none⟩)] w (RetA w (outB (absorb s (r ++ padL n)).1)) := by
  have HH := hid (Holds.init w)
  have HG := hid hg
  have HR := hid hr
  clear hg hr
  go_enter Try.func33, Try.ntmps33
  go_wp2_with (first
    | ((first
        | ((with_reducible apply wpL_skip); rfl; skip)
        | ((with_reducible apply wpL_allocC (dst := some 2) Z25 HH.out); rfl; (intro g2 w_ hq_; clear HH; have HH := hid hq_; clear hq_))
        | (go_at_call 40; refine (clone_any _ g s rv r n (by have := HH.out.old g (Array.getElem?_eq_some_iff.1 HG.out).1 (by simp); rw [this]; exact HG.out) (HH.out.sl HR.out) (by omega)).mono ?_; rintro e w2 ⟨gc, rvc, exc, rfl, hre, hex, hnd, hb⟩; (have hq_ : Holds w [] ((g2, objC z32 25) :: (gc, objC (hcells s rvc n) 118) :: exc) [] w2 := HH.out.newBy hex hnd hb); clear HH hb hex hnd; have HH := hid hq_; clear hq_; have HE := hid hre; clear hre)
        | ((with_reducible apply wpL_buildB [128] (dst := some 15)); rfl; rfl; (exact (by omega)); (exact HH.out); rfl; (intro g_ w_ hq_; clear HH; have HH := hid hq_; clear hq_))
        | ((with_reducible apply wpL_move); rfl; rfl)
        | ((with_reducible apply wpL_assign); rfl; rfl)
        | ((with_reducible apply wpL_pick); rfl; rfl; rfl)
        | ((with_reducible apply wpL_not); rfl; rfl)
        | ((with_reducible apply wpL_cmp (b := true)); rfl; rfl; rfl; (first | rfl | assumption | (simp only [cmpB, decide_eq_true_eq, decide_eq_false_iff_not, beq_iff_eq, bne_iff_ne, ne_eq, beq_eq_false_iff_ne, bne_eq_false_iff_eq, gt_iff_lt, ge_iff_le]; omega) | (simp; omega)); rfl)
        | ((with_reducible apply wpL_cmp (b := false)); rfl; rfl; rfl; (first | rfl | assumption | (simp only [cmpB, decide_eq_true_eq, decide_eq_false_iff_not, beq_iff_eq, bne_iff_ne, ne_eq, beq_eq_false_iff_ne, bne_eq_false_iff_eq, gt_iff_lt, ge_iff_le]; omega) | (simp; omega)); rfl)
        | ((with_reducible apply wpL_cmp); rfl; rfl; rfl; rfl; rfl)
        | ((with_reducible apply wpL_arith); rfl; rfl; rfl; (exact IntWalk.i64_in _ (by (try simp only [arithI]); omega)); rfl)); (try simp only [arithI, Act.put, Act.eval, List.setIfInBounds_toArray, List.set_cons_succ, List.set_cons_zero, Array.getD_eq_getD_getElem?, List.getElem?_toArray, List.getElem?_cons_succ, List.getElem?_cons_zero, Option.getD_some])))
  go_loopw [4] (SPadRel1 w n g2 gc (objC (hcells s rvc n) 118) exc) (fun v _ => 1 + padZ n - lenV v)
  case atStart => exact ⟨0, Nat.zero_le _, _, _, rfl, HH.out⟩
  case round =>
    obtain ⟨k, hk, ao1, cap1, rfl, hr⟩ := hrel
    clear HH
    have HH := hid hr
    clear hr
    have hlen : (128 :: List.replicate k 0 : List UInt8).length = 1 + k := by simp; omega
    have hz : padZ n = (119 - n % 64) % 64 := rfl
    have hk63 : k < 64 := by omega
    by_cases hlt : k < padZ n
    · have HA := hid (show (128 :: List.replicate k 0 : List UInt8) ++ [0] = 128 :: List.replicate (k + 1) 0 by rw [List.cons_append, ← List.replicate_succ'])
      go_wp2_with (first
        | ((first
            | ((with_reducible apply wpL_skip); rfl; skip)
            | ((with_reducible apply wpL_nilCheck); rfl; rfl)
            | ((with_reducible apply wpL_fieldAddr (t := 118)); (first | exact F118_0 | exact F118_1 | exact F118_2 | exact F118_3); rfl; rfl)
            | ((with_reducible apply wpL_load1 (v := .int .i64 n) O3 HH.out); rfl; (exact .there .here); rfl; rfl)
            | ((with_reducible apply wpL_len Try.underlying22); rfl; rfl)
            | ((with_reducible apply wpL_remN (m := n + (1 + k)) (n := 64)); rfl; rfl; (exact (by omega)); rfl; (exact (by omega)); (exact (by omega)); (exact (by omega)); rfl)
            | ((with_reducible apply wpL_buildB [0] (dst := some 26)); rfl; rfl; (exact (by omega)); (exact HH.out); rfl; (intro g_ w_ hq_; clear HH; have HH := hid hq_; clear hq_))
            | ((with_reducible apply wpL_appendB (dst := some 27) (l := 128 :: List.replicate k 0) (l2 := [0]) HH.out.swap HH.out.sl0); rfl; rfl; (exact (by simp; omega)); rfl; rfl; rfl; (rw [HA.out]; intro ao1 cap1 w_ hq_; clear HH; have HH := hid hq_.dropSnd; clear hq_))
            | ((with_reducible apply wpL_move); rfl; rfl)
            | ((with_reducible apply wpL_assign); rfl; rfl)
            | ((with_reducible apply wpL_pick); rfl; rfl; rfl)
            | ((with_reducible apply wpL_not); rfl; rfl)
            | ((with_reducible apply wpL_cmp (b := true)); rfl; rfl; rfl; (first | rfl | assumption | (simp only [cmpB, decide_eq_true_eq, decide_eq_false_iff_not, beq_iff_eq, bne_iff_ne, ne_eq, beq_eq_false_iff_ne, bne_eq_false_iff_eq, gt_iff_lt, ge_iff_le]; omega) | (simp; omega)); rfl)
            | ((with_reducible apply wpL_cmp (b := false)); rfl; rfl; rfl; (first | rfl | assumption | (simp only [cmpB, decide_eq_true_eq, decide_eq_false_iff_not, beq_iff_eq, bne_iff_ne, ne_eq, beq_eq_false_iff_ne, bne_eq_false_iff_eq, gt_iff_lt, ge_iff_le]; omega) | (simp; omega)); rfl)
            | ((with_reducible apply wpL_cmp); rfl; rfl; rfl; rfl; rfl)
            | ((with_reducible apply wpL_arith); rfl; rfl; rfl; (exact IntWalk.i64_in _ (by (try simp only [arithI]); omega)); rfl)); (try simp only [arithI, Act.put, Act.eval, List.setIfInBounds_toArray, List.set_cons_succ, List.set_cons_zero, Array.getD_eq_getD_getElem?, List.getElem?_toArray, List.getElem?_cons_succ, List.getElem?_cons_zero, Option.getD_some])))
      go_roundw
      case rel => exact ⟨k + 1, by omega, _, _, rfl, HH.out⟩
      case measure => simp [lenV]; omega
    · have hkz : k = padZ n := by omega
      have HKZ := hid hkz
      clear hkz
      go_wp2_with (first
        | ((first
            | ((with_reducible apply wpL_skip); rfl; skip)
            | ((with_reducible apply wpL_nilCheck); rfl; rfl)
            | ((with_reducible apply wpL_fieldAddr (t := 118)); (first | exact F118_0 | exact F118_1 | exact F118_2 | exact F118_3); rfl; rfl)
            | ((with_reducible apply wpL_load1 (v := .int .i64 n) O3 HH.out); rfl; (exact .there .here); rfl; rfl)
            | ((with_reducible apply wpL_len Try.underlying22); rfl; rfl)
            | ((with_reducible apply wpL_remN (m := n + (1 + k)) (n := 64)); rfl; rfl; (exact (by omega)); rfl; (exact (by omega)); (exact (by omega)); (exact (by omega)); rfl)
            | ((with_reducible apply wpL_move); rfl; rfl)
            | ((with_reducible apply wpL_assign); rfl; rfl)
            | ((with_reducible apply wpL_pick); rfl; rfl; rfl)
            | ((with_reducible apply wpL_not); rfl; rfl)
            | ((with_reducible apply wpL_cmp (b := true)); rfl; rfl; rfl; (first | rfl | assumption | (simp only [cmpB, decide_eq_true_eq, decide_eq_false_iff_not, beq_iff_eq, bne_iff_ne, ne_eq, beq_eq_false_iff_ne, bne_eq_false_iff_eq, gt_iff_lt, ge_iff_le]; omega) | (simp; omega)); rfl)
            | ((with_reducible apply wpL_cmp (b := false)); rfl; rfl; rfl; (first | rfl | assumption | (simp only [cmpB, decide_eq_true_eq, decide_eq_false_iff_not, beq_iff_eq, bne_iff_ne, ne_eq, beq_eq_false_iff_ne, bne_eq_false_iff_eq, gt_iff_lt, ge_iff_le]; omega) | (simp; omega)); rfl)
            | ((with_reducible apply wpL_cmp); rfl; rfl; rfl; rfl; rfl)
            | ((with_reducible apply wpL_arith); rfl; rfl; rfl; (exact IntWalk.i64_in _ (by (try simp only [arithI]); omega)); rfl)); (try simp only [arithI, Act.put, Act.eval, List.setIfInBounds_toArray, List.set_cons_succ, List.set_cons_zero, Array.getD_eq_getD_getElem?, List.getElem?_toArray, List.getElem?_cons_succ, List.getElem?_cons_zero, Option.getD_some])))
      go_loopw [4, 5] (SPadRel2 w (128 :: List.replicate k 0) n g2 gc (objC (hcells s rvc n) 118) exc) (fun _ i _ => (intOf i + 1).toNat)
      case atStart => exact ⟨0, Nat.zero_le _, rfl, ao1, cap1, by simp [lenBs], by simpa [lenBs] using HH.out⟩
      case round =>
        obtain ⟨j, hj, rfl, ao2, cap2, rfl, hr⟩ := hrel
        clear HH
        have HH := hid hr
        clear hr
        have hll : ((128 :: List.replicate k 0 : List UInt8) ++ lenBs n j).length = 1 + k + j := by rw [List.length_append, hlen]; simp [lenBs]
        by_cases hj8 : j < 8
        · have HA := hid (show ((128 :: List.replicate k 0 : List UInt8) ++ lenBs n j) ++ [lenByte n (7 - j)] = (128 :: List.replicate k 0) ++ lenBs n (j + 1) by rw [lenBs_succ, List.append_assoc])
          go_wp2_with (first
            | ((first
                | ((with_reducible apply wpL_skip); rfl; skip)
                | ((with_reducible apply wpL_nilCheck); rfl; rfl)
                | ((with_reducible apply wpL_fieldAddr (t := 118)); (first | exact F118_0 | exact F118_1 | exact F118_2 | exact F118_3); rfl; rfl)
                | ((with_reducible apply wpL_load1 (v := .int .i64 n) O3 HH.out); rfl; (exact .there .here); rfl; rfl)
                | ((with_reducible apply wpL_shrN (m := n * 8) (k := 8 * (7 - j))); rfl; rfl; (exact (by omega)); (exact (by omega)); (exact (by omega)); rfl)
                | ((with_reducible apply wpL_toB Try.underlying119 Try.underlying5); rfl; rfl; rfl)
                | ((with_reducible apply wpL_buildB [lenByte n (7 - j)] (dst := some 43)); rfl; rfl; (exact (by omega)); (exact HH.out); rfl; (intro g_ w_ hq_; clear HH; have HH := hid hq_; clear hq_))
                | ((with_reducible apply wpL_appendB (dst := some 44) (l := (128 :: List.replicate k 0) ++ lenBs n j) (l2 := [lenByte n (7 - j)]) HH.out.swap HH.out.sl0); rfl; rfl; (rw [hll]; exact (by simp; omega)); rfl; rfl; rfl; (rw [HA.out]; intro ao1 cap1 w_ hq_; clear HH; have HH := hid hq_.dropSnd; clear hq_))
                | ((with_reducible apply wpL_move); rfl; rfl)
                | ((with_reducible apply wpL_assign); rfl; rfl)
                | ((with_reducible apply wpL_pick); rfl; rfl; rfl)
                | ((with_reducible apply wpL_not); rfl; rfl)
                | ((with_reducible apply wpL_cmp (b := true)); rfl; rfl; rfl; (first | rfl | assumption | (simp only [cmpB, decide_eq_true_eq, decide_eq_false_iff_not, beq_iff_eq, bne_iff_ne, ne_eq, beq_eq_false_iff_ne, bne_eq_false_iff_eq, gt_iff_lt, ge_iff_le]; omega) | (simp; omega)); rfl)
                | ((with_reducible apply wpL_cmp (b := false)); rfl; rfl; rfl; (first | rfl | assumption | (simp only [cmpB, decide_eq_true_eq, decide_eq_false_iff_not, beq_iff_eq, bne_iff_ne, ne_eq, beq_eq_false_iff_ne, bne_eq_false_iff_eq, gt_iff_lt, ge_iff_le]; omega) | (simp; omega)); rfl)
                | ((with_reducible apply wpL_cmp); rfl; rfl; rfl; rfl; rfl)
                | ((with_reducible apply wpL_arith); rfl; rfl; rfl; (exact IntWalk.i64_in _ (by (try simp only [arithI]); omega)); rfl)); (try simp only [arithI, Act.put, Act.eval, List.setIfInBounds_toArray, List.set_cons_succ, List.set_cons_zero, Array.getD_eq_getD_getElem?, List.getElem?_toArray, List.getElem?_cons_succ, List.getElem?_cons_zero, Option.getD_some])))
          go_roundw
          case rel => exact ⟨j + 1, by omega, by go_num, _, _, rfl, HH.out⟩
          case measure => simp [intOf]; omega
        · have hj8' : j = 8 := by omega
          have hpd0 : (128 :: List.replicate k 0 : List UInt8) ++ lenBs n j = padL n := by rw [HKZ.out, hj8']; rfl
          clear hj8'
          have h0 := HH.out
          clear HH
          generalize (128 :: List.replicate k 0 : List UInt8) ++ lenBs n j = pd at *
          have HH := hid h0
          have HPD := hid hpd0
          clear h0 hpd0
          obtain ⟨s8, hs8⟩ : ∃ s8, (absorb s (r ++ pd)).1 = s8 := ⟨_, rfl⟩
          have HS8 := hid hs8
          clear hs8
          have hpl : r.length + pd.length ≤ 1000000 := by omega
          clear hll hlen
          go_wp2_with (first
            | ((first
                | ((with_reducible apply wpL_skip); rfl; skip)
                | (go_at_call 64; (have hcall_ := hid (take_own w _ g2 gc (objC z32 25) s rvc n exc ao2 cap2 r pd HH.out HE.out hpl)); (with_reducible refine hcall_.out.mono ?_); clear hcall_; rintro e w2 ⟨rfl, rv2, ex, hq_⟩; rw [HS8.out] at hq_; clear HH; have HH := hid hq_; clear hq_)
                | ((with_reducible apply wpL_allocC (dst := some 6) Z25 HH.out); rfl; (intro g6 w_ hq_; clear HH; have HH := hid hq_; clear hq_))
                | ((with_reducible apply wpL_nilCheck); rfl; rfl)
                | ((with_reducible apply wpL_fieldAddr (t := 118)); (first | exact F118_0 | exact F118_1 | exact F118_2 | exact F118_3); rfl; rfl)
                | ((with_reducible apply wpL_loadPart (t := 115) (vs := s8.ws.map wrd) A115 HH.out); rfl; (exact .there (.there .here)); rfl; rfl; rfl)
                | ((with_reducible apply wpL_allocC (dst := some 7) Z115' HH.out); rfl; (intro g7 w_ hq_; clear HH; have HH := hid hq_; clear hq_))
                | ((with_reducible apply wpL_storeC (vs := s8.ws.map wrd) (x := .tmp 7) (sz := 8)); rfl; rfl; (exact S115); (exact HH.out); (exact .here); rfl; (exact wrd_one _); rfl; rfl; (intro w_ hq_; clear HH; have HH := hid hq_; clear hq_))
                | ((with_reducible apply wpL_fieldAddr (t := 115)); (exact F115 _ (by decide)); rfl; rfl)
                | ((with_reducible apply wpL_load1 O105 HH.out); rfl; (exact .here); rfl; rfl)
                | ((with_reducible apply wpList_build (v := valW s8.ws)); (exact build106 s8); rfl)
                | ((with_reducible apply wpL_move); rfl; rfl)
                | ((with_reducible apply wpL_assign); rfl; rfl)
                | ((with_reducible apply wpL_pick); rfl; rfl; rfl)
                | ((with_reducible apply wpL_not); rfl; rfl)
                | ((with_reducible apply wpL_cmp (b := true)); rfl; rfl; rfl; (first | rfl | assumption | (simp only [cmpB, decide_eq_true_eq, decide_eq_false_iff_not, beq_iff_eq, bne_iff_ne, ne_eq, beq_eq_false_iff_ne, bne_eq_false_iff_eq, gt_iff_lt, ge_iff_le]; omega) | (simp; omega)); rfl)
                | ((with_reducible apply wpL_cmp (b := false)); rfl; rfl; rfl; (first | rfl | assumption | (simp only [cmpB, decide_eq_true_eq, decide_eq_false_iff_not, beq_iff_eq, bne_iff_ne, ne_eq, beq_eq_false_iff_ne, bne_eq_false_iff_eq, gt_iff_lt, ge_iff_le]; omega) | (simp; omega)); rfl)
                | ((with_reducible apply wpL_cmp); rfl; rfl; rfl; rfl; rfl)
                | ((with_reducible apply wpL_arith); rfl; rfl; rfl; (exact IntWalk.i64_in _ (by (try simp only [arithI]); omega)); rfl)); (try simp only [arithI, Act.put, Act.eval, List.setIfInBounds_toArray, List.set_cons_succ, List.set_cons_zero, Array.getD_eq_getD_getElem?, List.getElem?_toArray, List.getElem?_cons_succ, List.getElem?_cons_zero, Option.getD_some])))
          have hwl : s8.ws.length = 8 := rfl
          go_loopw [69] (SOutRel w s8 g2 g6 ((gc, objC (hcells s8 rv2 n) 118) :: (exc ++ ex)) [rowB ao2 cap2 pd]) (fun i _ => 8 - (intOf i).toNat)
          case atStart => exact ⟨0, Nat.zero_le _, rfl, by rw [Nat.mul_zero, fillB_zero]; exact HH.out.dropBlk⟩
          case round =>
            obtain ⟨t, ht, rfl, hr⟩ := hrel
            clear HH
            have HH := hid hr
            clear hr
            by_cases htl : t < 8
            · have hs0 := fillB_set (outByte s8) (n := 32) (i := 4 * t) (by omega)
              have hs1 := fillB_set (outByte s8) (n := 32) (i := 4 * t + 1) (by omega)
              have hs2 := fillB_set (outByte s8) (n := 32) (i := 4 * t + 2) (by omega)
              have hs3 := fillB_set (outByte s8) (n := 32) (i := 4 * t + 3) (by omega)
              have o0 := outByte_at s8 t 0 (by omega)
              have o1 := outByte_at s8 t 1 (by omega)
              have o2 := outByte_at s8 t 2 (by omega)
              have o3 := outByte_at s8 t 3 (by omega)
              rw [Nat.add_zero] at o0
              rw [o0] at hs0
              rw [o1] at hs1
              rw [o2] at hs2
              rw [o3, show 24 - 8 * 3 = 0 from rfl, BitVec.ushiftRight_zero] at hs3
              have H0 := hid hs0
              have H1 := hid hs1
              have H2 := hid hs2
              have H3 := hid hs3
              clear hs0 hs1 hs2 hs3 o0 o1 o2 o3
              go_wp2_with (first
                | ((first
                    | ((with_reducible apply wpL_skip); rfl; skip)
                    | ((with_reducible apply wpL_indexV (m := t) (v := wrd (s8.ws.getD t 0)) Try.underlying106 Try.underlying105 rfl S105); rfl; rfl; rfl; (exact htl); (exact wget0 (by omega)); rfl)
                    | ((with_reducible apply wpL_wshr); rfl; rfl; (exact (by decide)); rfl)
                    | ((with_reducible apply wpL_w2b Try.underlying105 Try.underlying5); rfl; rfl)
                    | ((with_reducible apply wpL_indexVar (i := .tmp 74) (m := 4 * t) Try.underlying25 S5'); rfl; rfl; (exact (by omega)); (exact (by omega)); rfl)
                    | ((with_reducible apply wpL_indexVar (i := .tmp 77) (m := 4 * t + 1) Try.underlying25 S5'); rfl; rfl; (exact (by omega)); (exact (by omega)); rfl)
                    | ((with_reducible apply wpL_indexVar (i := .tmp 80) (m := 4 * t + 2) Try.underlying25 S5'); rfl; rfl; (exact (by omega)); (exact (by omega)); rfl)
                    | ((with_reducible apply wpL_indexVar (i := .tmp 83) (m := 4 * t + 3) Try.underlying25 S5'); rfl; rfl; (exact (by omega)); (exact (by omega)); rfl)
                    | ((with_reducible apply wpL_storeBt (x := .tmp 95) (l := fillB (outByte s8) 32 (4 * t)) (m := 4 * t) (v := w2b (s8.ws.getD t 0 >>> (24 - 8 * 0)))); rfl; rfl; (exact S5'); (exact HH.out); (exact .here); (rw [fillB_len]; exact (by omega)); rfl; (intro w_ hq_; rw [H0.out] at hq_; clear HH; have HH := hid hq_; clear hq_))
                    | ((with_reducible apply wpL_storeBt (x := .tmp 96) (l := fillB (outByte s8) 32 (4 * t + 1)) (m := 4 * t + 1) (v := w2b (s8.ws.getD t 0 >>> (24 - 8 * 1)))); rfl; rfl; (exact S5'); (exact HH.out); (exact .here); (rw [fillB_len]; exact (by omega)); rfl; (intro w_ hq_; rw [H1.out] at hq_; clear HH; have HH := hid hq_; clear hq_))
                    | ((with_reducible apply wpL_storeBt (x := .tmp 97) (l := fillB (outByte s8) 32 (4 * t + 2)) (m := 4 * t + 2) (v := w2b (s8.ws.getD t 0 >>> (24 - 8 * 2)))); rfl; rfl; (exact S5'); (exact HH.out); (exact .here); (rw [fillB_len]; exact (by omega)); rfl; (intro w_ hq_; rw [H2.out] at hq_; clear HH; have HH := hid hq_; clear hq_))
                    | ((with_reducible apply wpL_storeBt (x := .tmp 98) (l := fillB (outByte s8) 32 (4 * t + 3)) (m := 4 * t + 3) (v := w2b (s8.ws.getD t 0))); rfl; rfl; (exact S5'); (exact HH.out); (exact .here); (rw [fillB_len]; exact (by omega)); rfl; (intro w_ hq_; rw [H3.out] at hq_; clear HH; have HH := hid hq_; clear hq_))
                    | ((with_reducible apply wpL_move); rfl; rfl)
                    | ((with_reducible apply wpL_assign); rfl; rfl)
                    | ((with_reducible apply wpL_pick); rfl; rfl; rfl)
                    | ((with_reducible apply wpL_not); rfl; rfl)
                    | ((with_reducible apply wpL_cmp (b := true)); rfl; rfl; rfl; (first | rfl | assumption | (simp only [cmpB, decide_eq_true_eq, decide_eq_false_iff_not, beq_iff_eq, bne_iff_ne, ne_eq, beq_eq_false_iff_ne, bne_eq_false_iff_eq, gt_iff_lt, ge_iff_le]; omega) | (simp; omega)); rfl)
                    | ((with_reducible apply wpL_cmp (b := false)); rfl; rfl; rfl; (first | rfl | assumption | (simp only [cmpB, decide_eq_true_eq, decide_eq_false_iff_not, beq_iff_eq, bne_iff_ne, ne_eq, beq_eq_false_iff_ne, bne_eq_false_iff_eq, gt_iff_lt, ge_iff_le]; omega) | (simp; omega)); rfl)
                    | ((with_reducible apply wpL_cmp); rfl; rfl; rfl; rfl; rfl)
                    | ((with_reducible apply wpL_arith); rfl; rfl; rfl; (exact IntWalk.i64_in _ (by (try simp only [arithI]); omega)); rfl)); (try simp only [arithI, Act.put, Act.eval, List.setIfInBounds_toArray, List.set_cons_succ, List.set_cons_zero, Array.getD_eq_getD_getElem?, List.getElem?_toArray, List.getElem?_cons_succ, List.getElem?_cons_zero, Option.getD_some])))
              go_roundw
              case rel => exact ⟨t + 1, by omega, by go_num, by rw [show 4 * (t + 1) = 4 * t + 3 + 1 by omega]; exact HH.out⟩
              case measure => simp [intOf]; omega
            · obtain rfl : t = 8 := by omega
              have h0 := HH.out
              rw [show 4 * 8 = 32 from rfl, fillB_full] at h0
              clear HH
              have HH := hid h0
              clear h0
              go_wp2_with (first
                | ((first
                    | ((with_reducible apply wpL_skip); rfl; skip)
                    | ((with_reducible apply wpL_loadC (x := .tmp 6) A25 HH.out); rfl; (exact .here); rfl; rfl)
                    | ((with_reducible apply wpL_storeC (vs := ((List.range 32).map (outByte s8)).map byt) (x := .tmp 2) (sz := 32)); rfl; rfl; (exact S25); (exact HH.out); (exact .there .here); rfl; (exact byt_cell1 _); rfl; rfl; (intro w_ hq_; clear HH; have HH := hid hq_; clear hq_))
                    | ((with_reducible apply wpL_move); rfl; rfl)
                    | ((with_reducible apply wpL_assign); rfl; rfl)
                    | ((with_reducible apply wpL_pick); rfl; rfl; rfl)
                    | ((with_reducible apply wpL_not); rfl; rfl)
                    | ((with_reducible apply wpL_cmp (b := true)); rfl; rfl; rfl; (first | rfl | assumption | (simp only [cmpB, decide_eq_true_eq, decide_eq_false_iff_not, beq_iff_eq, bne_iff_ne, ne_eq, beq_eq_false_iff_ne, bne_eq_false_iff_eq, gt_iff_lt, ge_iff_le]; omega) | (simp; omega)); rfl)
                    | ((with_reducible apply wpL_cmp (b := false)); rfl; rfl; rfl; (first | rfl | assumption | (simp only [cmpB, decide_eq_true_eq, decide_eq_false_iff_not, beq_iff_eq, bne_iff_ne, ne_eq, beq_eq_false_iff_ne, bne_eq_false_iff_eq, gt_iff_lt, ge_iff_le]; omega) | (simp; omega)); rfl)
                    | ((with_reducible apply wpL_cmp); rfl; rfl; rfl; rfl; rfl)
                    | ((with_reducible apply wpL_arith); rfl; rfl; rfl; (exact IntWalk.i64_in _ (by (try simp only [arithI]); omega)); rfl)); (try simp only [arithI, Act.put, Act.eval, List.setIfInBounds_toArray, List.set_cons_succ, List.set_cons_zero, Array.getD_eq_getD_getElem?, List.getElem?_toArray, List.getElem?_cons_succ, List.getElem?_cons_zero, Option.getD_some])))
              refine bodyPost_ret (res1 rfl (resC A25 HH.out (by rfl) (.there .here) rfl)) rfl ?_
              refine ⟨?_, HH.out.below⟩
              rw [← HPD.out, HS8.out]
              rfl
end Go.Proofs.Ytgkfopodhikckaa

/- Sum of sha256, cut of the laws. Condition: at most a million bytes less a thousand. -/
namespace Go.Proofs.Ytgkfopodhikckaa
open Go.RowKit
theorem write_own (w0 w : World) (g2 gc : Nat) (o2 : Obj) (s : St) (rvc vb : Value) (n : Nat) (exc : List (Nat × Obj)) (rows : List Row) (r b : List UInt8)
    (h : Holds w0 [] ((g2, o2) :: (gc, objC (hcells s rvc n) 118) :: exc) rows w) (hre : RestEx exc rvc r) (h3 : Byts w vb b) (hn : r.length + b.length ≤ 1000000) (hn2 : n ≤ 1000000000) :
    Calls Try.prog 34 #[.pointer (some ⟨gc, 0, none⟩), vb] w (fun e w' => e = .returned (.int .i64 0) ∧ ∃ rv2 ex, RestEx ex rv2 (absorb s (r ++ b)).2 ∧ Holds w0 [] ((g2, o2) :: (gc, objC (hcells (absorb s (r ++ b)).1 rv2 (n + b.length)) 118) :: (exc ++ ex)) rows w') := by
  have h1 : w.heap[gc]? = some (objC (hcells s rvc n) 118) := h.blk (gc, _) (List.mem_cons_of_mem _ List.mem_cons_self)
  have h2 : Byts w rvc r := hre.byts h fun q hq => List.mem_cons_of_mem _ (List.mem_cons_of_mem _ hq)
  refine (write_any w gc s rvc _ r b n h1 h2 h3 hn hn2).mono fun e w' ⟨he, ho⟩ => ⟨he, ?_⟩
  obtain ⟨rv2, ex, bs2, hturn, hre2, _, _, hq⟩ := h.hashBy (.there .here) (fun o' => ⟨_, .there .here⟩) ho
  have e2 : ∀ {o' : Obj} {bs2}, Turn ((g2, o2) :: (gc, objC (hcells s rvc n) 118) :: exc) gc (objC (hcells s rvc n) 118) o' bs2 → g2 ≠ gc → bs2 = (g2, o2) :: (gc, o') :: exc ∨ ∃ l', Turn exc gc (objC (hcells s rvc n) 118) o' l' := by
    intro o' bs2 ht hne
    cases ht with
    | here => exact absurd rfl hne
    | there ht2 =>
      cases ht2 with
      | here => exact .inl rfl
      | there ht3 => exact .inr ⟨_, ht3⟩
  have hs := h.sep
  simp only [List.map_cons, List.cons_append, List.nodup_cons, List.mem_cons, List.mem_append, not_or] at hs
  rcases e2 hturn (fun e => hs.1.1 e) with rfl | ⟨l', ht⟩
  · exact ⟨rv2, ex, hre2, hq⟩
  · exact absurd (List.mem_map.2 ⟨_, ht.own.mem, rfl⟩) hs.2.1.1
set_option maxRecDepth 100000 in
set_option maxHeartbeats 2000000 in
theorem shaSum_any (w : World) (v : Value) (l : List UInt8) (hl : Byts w v l) (hn : l.length ≤ 900000) : Calls Try.prog 20 #[v] w (RetA w (sumB l)) := by
  obtain ⟨ao, cap, rfl, _⟩ := hl.shape
  have HL := hid hl
  clear hl
  have HH := hid (Holds.init w)
  have hsh := absorb_short initS l
  obtain ⟨s1, hs1⟩ : ∃ s1, (absorb initS l).1 = s1 := ⟨_, rfl⟩
  obtain ⟨r1, hr1⟩ : ∃ r1, (absorb initS l).2 = r1 := ⟨_, rfl⟩
  have hsum : sumB l = outB (absorb s1 (r1 ++ padL l.length)).1 := by rw [sumB_absorb, hs1, hr1]
  rw [hsum]
  rw [hr1] at hsh
  have HS1 := hid hs1
  have HR1 := hid hr1
  have N0 := hid (show 0 + l.length = l.length from Nat.zero_add _)
  have NA := hid (show ([] : List UInt8) ++ l = l from rfl)
  clear hs1 hr1 hsum
  go_enter Try.func20, Try.ntmps20
  go_wp2_with (first
    | ((first
        | ((with_reducible apply wpL_skip); rfl; skip)
        | ((with_reducible apply wpL_allocC (dst := some 2) Z25 HH.out); rfl; (intro g2 w_ hq_; clear HH; have HH := hid hq_; clear hq_))
        | (go_at_call 32; refine (new_any _).mono ?_; rintro e w2 ⟨gc, rvc, exc, rfl, hre, hex, hnd, hb⟩; (have hq_ : Holds w [] ((g2, objC z32 25) :: (gc, objC (hcells initS rvc 0) 118) :: exc) [] w2 := HH.out.newBy hex hnd hb); clear HH hb hex hnd; have HH := hid hq_; clear hq_; have HE := hid hre; clear hre)
        | (go_at_call 34; (have hcall_ := hid (write_own w _ g2 gc (objC z32 25) initS rvc _ 0 exc [] [] l HH.out HE.out (HH.out.sl HL.out) (by simp; omega) (by omega))); (with_reducible refine hcall_.out.mono ?_); clear hcall_; rw [NA.out, N0.out, HS1.out, HR1.out]; rintro e w2 ⟨rfl, rv2, ex, hre, hq_⟩; clear HH HE; have HH := hid hq_; have HE := hid hre; clear hq_ hre)
        | (go_at_call 33; (have hcall_ := hid (sum_any _ gc s1 rv2 r1 l.length (HH.out.blk _ (List.mem_cons_of_mem _ List.mem_cons_self)) (HE.out.byts HH.out fun q hq => List.mem_cons_of_mem _ (List.mem_cons_of_mem _ (List.mem_append.2 (.inr hq)))) (by omega) (by omega))); (with_reducible refine hcall_.out.mono ?_); clear hcall_; rintro e w2 ⟨rfl, hb⟩; (have hq_ := HH.out.grow hb); clear HH; have HH := hid hq_; clear hq_ hb)
        | ((with_reducible apply wpL_storeC (vs := (outB (absorb s1 (r1 ++ padL l.length)).1).cells) (x := .tmp 2) (sz := 32)); rfl; rfl; (exact S25); (exact HH.out); (exact .here); (exact Arr.len _); (exact cells_one _); rfl; rfl; (intro w_ hq_; clear HH; have HH := hid hq_; clear hq_))
        | ((with_reducible apply wpL_move); rfl; rfl)
        | ((with_reducible apply wpL_assign); rfl; rfl)
        | ((with_reducible apply wpL_pick); rfl; rfl; rfl)
        | ((with_reducible apply wpL_not); rfl; rfl)
        | ((with_reducible apply wpL_cmp (b := true)); rfl; rfl; rfl; (first | rfl | assumption | (simp only [cmpB, decide_eq_true_eq, decide_eq_false_iff_not, beq_iff_eq, bne_iff_ne, ne_eq, beq_eq_false_iff_ne, bne_eq_false_iff_eq, gt_iff_lt, ge_iff_le]; omega) | (simp; omega)); rfl)
        | ((with_reducible apply wpL_cmp (b := false)); rfl; rfl; rfl; (first | rfl | assumption | (simp only [cmpB, decide_eq_true_eq, decide_eq_false_iff_not, beq_iff_eq, bne_iff_ne, ne_eq, beq_eq_false_iff_ne, bne_eq_false_iff_eq, gt_iff_lt, ge_iff_le]; omega) | (simp; omega)); rfl)
        | ((with_reducible apply wpL_cmp); rfl; rfl; rfl; rfl; rfl)
        | ((with_reducible apply wpL_arith); rfl; rfl; rfl; (exact IntWalk.i64_in _ (by (try simp only [arithI]); omega)); rfl)); (try simp only [arithI, Act.put, Act.eval, List.setIfInBounds_toArray, List.set_cons_succ, List.set_cons_zero, Array.getD_eq_getD_getElem?, List.getElem?_toArray, List.getElem?_cons_succ, List.getElem?_cons_zero, Option.getD_some])))
  refine bodyPost_ret (res1 rfl (resC A25 HH.out (by rfl) .here (Arr.len _))) rfl ?_
  exact ⟨rfl, HH.out.below⟩
end Go.Proofs.Ytgkfopodhikckaa

/- cut and known of the laws of sha256. No condition. -/
namespace Go.Proofs.Ytgkfopodhikckaa
open Go.RowKit
section
variable {P : Program} {ops : Array Oper} {rest : List Oper} {a : Act} {dst : Option Tmp} {ty : TypeId} {pos : String} {after : Array Edge} {guard : Option (Nat × Bool)} {w w0 : World} {S : List Nat} {bs : List (Nat × Obj)} {rows : List Row} {Q : Exit → Act → World → Prop}
theorem wpL_convConst {t : TypeId} (ht : P.underlying t = some (.slice 5)) (he : P.underlying 5 = some (.int .u8)) {l : List UInt8} {g n c : Nat} {x : Operand} (hH : Holds w0 S bs (rowB (some ⟨g, 0, none⟩) c l :: rows) w) (hx : a.eval x = .slice (some ⟨g, 0, none⟩) n c) (hn : n = l.length)
    (hg : Region.wanted { dst := dst, op := .convert t t x, type := ty, pos := pos, after := after, guard := guard } (yielded ops a.tmps) = true)
    (h : ∀ w', Holds w0 S bs rows w' → Byts w' (.slice (some ⟨g, 0, none⟩) n c) l → wpList P ops Q rest (a.put dst (.slice (some ⟨g, 0, none⟩) n c)) w') : wpList P ops Q ({ dst := dst, op := .convert t t x, type := ty, pos := pos, after := after, guard := guard } :: rest) a w := by
  subst hn
  have hown := hH.own0
  rcases hown.2 with ⟨hv, _⟩ | ⟨g', cap', cur, hv, hb, hgc, hnc, hm, hs, htake⟩
  · simp at hv
  · simp only [Value.slice.injEq, Option.some.injEq, true_and, Addr.mk.injEq, and_true] at hv
    obtain ⟨rfl, rfl⟩ := hv
    have hsh : w.shape? g = some (5, cur.size) := by simp [World.shape?, hgc]
    have hr : (convert t t (.slice (some ⟨g, 0, none⟩) l.length c)).run P w = .ok (.slice (some ⟨g, 0, none⟩) l.length c) (w.freeze ⟨g, cur.size, none⟩ 1) := by
      simp [convert, run_underlying ht, run_underlying he, markStringish, hsh]
    have hgr : w.grownBy (w.freeze ⟨g, cur.size, none⟩ 1) (some g) := by
      unfold World.freeze
      split
      · exact ⟨rfl, rfl, rfl, Nat.le_refl _, fun _ _ _ => rfl⟩
      · refine ⟨rfl, rfl, rfl, by simp, fun k _ hk => ?_⟩
        simp only [Array.getElem?_modify]
        rw [if_neg (by intro e; exact hk (by rw [← e]))]
    refine wpList_ex hg (v := .slice (some ⟨g, 0, none⟩) l.length c) (w' := w.freeze ⟨g, cur.size, none⟩ 1) ?_ (h _ (hH.lostRow hgr) ?_)
    · simp only [execOp, hx, Sem.run_bind, hr, Result.andThen_ok, Sem.run_pure]
    · refine ⟨_, c, rfl, hnc, by simp, fun j u hu => ⟨_, rfl, ?_⟩⟩
      have hc := hown.cells (g := g) rfl j u hu
      rw [← hc]
      have hadd : (⟨g, 0, none⟩ : Addr).add j = ⟨g, j, none⟩ := by unfold Addr.add; split <;> simp_all
      rw [hadd]
      simp [World.cell?, World.freeze, hgc, Array.getElem?_modify]
theorem wpL_sliceTo {t e : TypeId} {sz bytes : Nat} (hE : Elem P t e sz bytes) {x hi : Operand} {ao : Option Addr} {n c j : Nat} {q : Int} {k : IntKind} (hx : a.eval x = .slice ao n c) (hh : a.eval hi = .int k q) (hq : q = (j : Int)) (hj : j ≤ c)
    (hg : Region.wanted { dst := dst, op := .slice t x none (some hi) none, type := ty, pos := pos, after := after, guard := guard } (yielded ops a.tmps) = true)
    (h : wpList P ops Q rest (a.put dst (.slice ao j c)) w) : wpList P ops Q ({ dst := dst, op := .slice t x none (some hi) none, type := ty, pos := pos, after := after, guard := guard } :: rest) a w :=
  wpList_ex hg (ex_slice_to (ρ := a.eval) hE hx hh hq hj w) h
end
def RetB (w : World) (b : Bool) (e : Ending) (w' : World) : Prop := e = .returned (.bool b) ∧ Below w.heap.size w w'
theorem RetB.mk {w w' : World} {b c : Bool} (h : b = c) (hb : Below w.heap.size w w') : RetB w c (.returned (.bool b)) w' := ⟨by rw [h], hb⟩
end Go.Proofs.Ytgkfopodhikckaa

/- Arrays held against each other, copied; SumHalf, Half, the laws Sha256Sum and Sha256Half. Condition: a slice of at most 2^47 bytes. -/
namespace Go.Proofs.Ytgkfopodhikckaa
open Go.RowKit
section
variable {P : Program} {ops : Array Oper} {rest : List Oper} {a : Act} {dst : Option Tmp} {ty : TypeId} {pos : String} {after : Array Edge} {guard : Option (Nat × Bool)} {w w0 : World} {S : List Nat} {bs bs' : List (Nat × Obj)} {rows : List Row} {Q : Exit → Act → World → Prop} {C : World → Prop} {K : Act → Prop}
theorem wpL_eqlA {n : Nat} {t : TypeId} {b : Bool} {p q : Arr n} (hA : ArrT P t n) {x y : Operand} {yt : TypeId} (hx : a.eval x = p.val) (hy : a.eval y = q.val) (hb : (p == q) = b)
    (hg : Region.wanted { dst := dst, op := .binOp .eql t x y yt, type := ty, pos := pos, after := after, guard := guard } (yielded ops a.tmps) = true)
    (h : wpList P ops Q rest (a.put dst (.bool b)) w) : wpList P ops Q ({ dst := dst, op := .binOp .eql t x y yt, type := ty, pos := pos, after := after, guard := guard } :: rest) a w := by
  subst hb; exact wpList_eql_arr hA hx hy hg h
theorem wpQ_neqA {n : Nat} {t : TypeId} {b : Bool} {p q : Arr n} (hA : ArrT P t n) {x y : Operand} {yt : TypeId} (hx : a.eval x = p.val) (hy : a.eval y = q.val) (hb : (!(p == q)) = b)
    (hg : Region.wanted { dst := dst, op := .binOp .neq t x y yt, type := ty, pos := pos, after := after, guard := guard } (yielded ops a.tmps) = true)
    (h : wpQuiet P ops C K rest (a.put dst (.bool b))) : wpQuiet P ops C K ({ dst := dst, op := .binOp .neq t x y yt, type := ty, pos := pos, after := after, guard := guard } :: rest) a := by
  subst hb; exact wpQ_neq_arr hA hx hy hg h
theorem wpL_arrayAt {t e : TypeId} {n m c : Nat} {ao : Option Addr} {x : Operand} (ht : P.underlying t = some (.array n e)) (hx : a.eval x = .slice ao m c) (hn : n ≤ m)
    (hg : Region.wanted { dst := dst, op := .sliceToArrayPointer t x, type := ty, pos := pos, after := after, guard := guard } (yielded ops a.tmps) = true)
    (h : wpList P ops Q rest (a.put dst (.pointer ao)) w) : wpList P ops Q ({ dst := dst, op := .sliceToArrayPointer t x, type := ty, pos := pos, after := after, guard := guard } :: rest) a w := by
  refine wpList_ex hg ?_ h
  have : ¬ m < n := by omega
  simp [execOp, hx, Instr.arrayAt, run_underlying ht, this]
end
def halfA (d : Arr 32) : Arr 16 := ⟨d.1.take 16, by rw [List.length_take, d.2]; rfl⟩
theorem halfA_cells (d : Arr 32) : (d.cells.drop 0).take 16 = (halfA d).cells := by simp [Arr.cells, halfA, List.map_take]
set_option maxRecDepth 100000 in
set_option maxHeartbeats 2000000 in
theorem sumHalf_any (w : World) (v : Value) (l : List UInt8) (hl : Byts w v l) (hn : l.length ≤ 900000) : Calls Try.prog 35 #[v] w (RetA w (halfA (sumB l))) := by
  obtain ⟨ao, cap, rfl, hc⟩ := hl.shape
  have HL := hid hl
  clear hl
  have HH := hid (Holds.init w)
  generalize hd : sumB l = d
  have HD := hid hd
  clear hd
  have HC := hid (halfA_cells d)
  go_enter Try.func35, Try.ntmps35
  go_wp2_with (first
    | ((first
        | ((with_reducible apply wpL_skip); rfl; skip)
        | (go_at_call 20; (with_reducible refine (shaSum_any _ _ l (HH.out.sl HL.out) hn).mono ?_); rw [HD.out]; rintro e_ w2_ ⟨rfl, hb_⟩; (have hq_ := HH.out.grow hb_); clear HH; have HH := hid hq_; clear hq_ hb_)
        | ((with_reducible apply wpL_storeC (t := 25) (vs := d.cells)); rfl; rfl; (exact kS25); (exact HH.out); (exact .here); (exact Arr.len _); (exact cells_one _); (exact Arr.len _); rfl; (intro w_ hq_; clear HH; have HH := hid hq_; clear hq_))
        | ((with_reducible apply wpL_sliceArrTo (m := 16) Try.underlying25 kS5); rfl; rfl; rfl; (exact (by omega)); rfl)
        | ((with_reducible apply wpL_arrayAt Try.underlying56); rfl; (exact (by omega)); rfl)
        | ((with_reducible apply wpL_loadPart (vs := (halfA d).cells) (t := 56) kA56 HH.out); rfl; (exact .here); (exact HC.out); (exact Arr.len _); rfl)
        | ((with_reducible apply wpL_storeC (t := 56) (vs := (halfA d).cells)); rfl; rfl; (exact kS56); (exact HH.out); (exact .there .here); (exact Arr.len _); (exact cells_one _); (exact Arr.len _); rfl; (intro w_ hq_; clear HH; have HH := hid hq_; clear hq_))
        | ((with_reducible apply wpL_nilCheck); rfl; rfl)
        | ((with_reducible apply wpL_loadArr (t := 56) kA56 HH.out); rfl; (first | exact .here | exact .there .here | exact .there (.there .here) | exact .there (.there (.there .here)) | exact .there (.there (.there (.there .here))) | exact .there (.there (.there (.there (.there .here)))) | exact .there (.there (.there (.there (.there (.there .here))))) | exact .there (.there (.there (.there (.there (.there (.there .here))))))); rfl)
        | ((with_reducible apply wpL_loadC (t := 56) kA56 HH.out); rfl; (first | exact .here | exact .there .here | exact .there (.there .here) | exact .there (.there (.there .here)) | exact .there (.there (.there (.there .here))) | exact .there (.there (.there (.there (.there .here)))) | exact .there (.there (.there (.there (.there (.there .here))))) | exact .there (.there (.there (.there (.there (.there (.there .here))))))); (first | rfl | exact Arr.len _ | (simp; done)); rfl)
        | ((with_reducible apply wpL_allocC (dst := some 2) kZ56 HH.out); rfl; (intro g2_ w_ hq_; (try simp only [List.set_cons_zero, List.set_cons_succ] at hq_); clear HH; have HH := hid hq_; clear hq_))
        | ((with_reducible apply wpL_allocC (dst := some 3) kZ25 HH.out); rfl; (intro g3_ w_ hq_; (try simp only [List.set_cons_zero, List.set_cons_succ] at hq_); clear HH; have HH := hid hq_; clear hq_))
        | ((with_reducible apply wpL_storeArr (t := 25) kS25 HH.out); rfl; rfl; (first | exact .here | exact .there .here | exact .there (.there .here) | exact .there (.there (.there .here)) | exact .there (.there (.there (.there .here))) | exact .there (.there (.there (.there (.there .here)))) | exact .there (.there (.there (.there (.there (.there .here))))) | exact .there (.there (.there (.there (.there (.there (.there .here))))))); (first | rfl | exact Arr.len _ | (simp; done)); rfl; (intro w_ hq_; (try simp only [List.set_cons_zero, List.set_cons_succ] at hq_); clear HH; have HH := hid hq_; clear hq_))
        | ((with_reducible apply wpL_storeC (t := 25)); rfl; rfl; (exact kS25); (exact HH.out); (first | exact .here | exact .there .here | exact .there (.there .here) | exact .there (.there (.there .here)) | exact .there (.there (.there (.there .here))) | exact .there (.there (.there (.there (.there .here)))) | exact .there (.there (.there (.there (.there (.there .here))))) | exact .there (.there (.there (.there (.there (.there (.there .here))))))); (first | rfl | exact Arr.len _ | (simp; done)); (first | rfl | (intro u_ hu_; simp only [List.mem_cons, List.not_mem_nil, or_false] at hu_; rcases hu_ with rfl | hu_; rfl) | exact byt_cell1 _ | exact cells_one _ | exact wrd_one _ | exact flat_cell1 _); (first | rfl | exact Arr.len _ | (simp; done)); rfl; (intro w_ hq_; (try simp only [List.set_cons_zero, List.set_cons_succ] at hq_); clear HH; have HH := hid hq_; clear hq_))
        | ((with_reducible apply wpL_storeArr (t := 56) kS56 HH.out); rfl; rfl; (first | exact .here | exact .there .here | exact .there (.there .here) | exact .there (.there (.there .here)) | exact .there (.there (.there (.there .here))) | exact .there (.there (.there (.there (.there .here)))) | exact .there (.there (.there (.there (.there (.there .here))))) | exact .there (.there (.there (.there (.there (.there (.there .here))))))); (first | rfl | exact Arr.len _ | (simp; done)); rfl; (intro w_ hq_; (try simp only [List.set_cons_zero, List.set_cons_succ] at hq_); clear HH; have HH := hid hq_; clear hq_))
        | ((with_reducible apply wpL_storeC (t := 56)); rfl; rfl; (exact kS56); (exact HH.out); (first | exact .here | exact .there .here | exact .there (.there .here) | exact .there (.there (.there .here)) | exact .there (.there (.there (.there .here))) | exact .there (.there (.there (.there (.there .here)))) | exact .there (.there (.there (.there (.there (.there .here))))) | exact .there (.there (.there (.there (.there (.there (.there .here))))))); (first | rfl | exact Arr.len _ | (simp; done)); (first | rfl | (intro u_ hu_; simp only [List.mem_cons, List.not_mem_nil, or_false] at hu_; rcases hu_ with rfl | hu_; rfl) | exact byt_cell1 _ | exact cells_one _ | exact wrd_one _ | exact flat_cell1 _); (first | rfl | exact Arr.len _ | (simp; done)); rfl; (intro w_ hq_; (try simp only [List.set_cons_zero, List.set_cons_succ] at hq_); clear HH; have HH := hid hq_; clear hq_))
        | ((with_reducible apply wpL_move); rfl; rfl)
        | ((with_reducible apply wpL_assign); rfl; rfl)
        | ((with_reducible apply wpL_pick); rfl; rfl; rfl)
        | ((with_reducible apply wpL_not); rfl; rfl)
        | ((with_reducible apply wpL_cmp (b := true)); rfl; rfl; rfl; (first | rfl | assumption | (simp only [cmpB, decide_eq_true_eq, decide_eq_false_iff_not, beq_iff_eq, bne_iff_ne, ne_eq, beq_eq_false_iff_ne, bne_eq_false_iff_eq, gt_iff_lt, ge_iff_le]; omega) | (simp; omega)); rfl)
        | ((with_reducible apply wpL_cmp (b := false)); rfl; rfl; rfl; (first | rfl | assumption | (simp only [cmpB, decide_eq_true_eq, decide_eq_false_iff_not, beq_iff_eq, bne_iff_ne, ne_eq, beq_eq_false_iff_ne, bne_eq_false_iff_eq, gt_iff_lt, ge_iff_le]; omega) | (simp; omega)); rfl)
        | ((with_reducible apply wpL_cmp); rfl; rfl; rfl; rfl; rfl)
        | ((with_reducible apply wpL_arith); rfl; rfl; rfl; (exact IntWalk.i64_in _ (by (try simp only [arithI]); omega)); rfl)); (try simp only [arithI, Act.put, Act.eval, List.setIfInBounds_toArray, List.set_cons_succ, List.set_cons_zero, Array.getD_eq_getD_getElem?, List.getElem?_toArray, List.getElem?_cons_succ, List.getElem?_cons_zero, Option.getD_some])))
  refine bodyPost_ret (res1 rfl (resC kA56 HH.out (by rfl) (.there .here) (Arr.len _))) rfl ?_
  exact ⟨rfl, HH.out.below⟩
end Go.Proofs.Ytgkfopodhikckaa

/- The laws Sha256Sum and Sha256Half: they return true. Condition: a slice of at most 2^47 bytes. -/
namespace Go.Proofs.Ytgkfopodhikckaa
open Go.RowKit
theorem arrRefl {n : Nat} (x : Arr n) : (x == x) = true := beq_self_eq_true _
end Go.Proofs.Ytgkfopodhikckaa

/- A Hash of the call's own, told by the bytes that were written to it; a nil Hash. Condition: at most nine hundred thousand bytes. -/
namespace Go.Proofs.Ytgkfopodhikckaa
open Go.RowKit
/-- Block g is a Hash to which the bytes l were written. -/
def HashAt (bs : List (Nat × Obj)) (g : Nat) (l : List UInt8) : Prop :=
  ∃ rv ex, (g, objC (hcells (absorb initS l).1 rv l.length) 118) ∈ bs ∧ RestEx ex rv (absorb initS l).2 ∧ ∀ p ∈ ex, p ∈ bs ∧ ∃ cur, p.2 = .cells cur 5
theorem RestEx.only {ex : List (Nat × Obj)} {v : Value} {l : List UInt8} (h : RestEx ex v l) : ∃ ex', RestEx ex' v l ∧ ∀ p ∈ ex', p ∈ ex ∧ ∃ cur, p.2 = .cells cur 5 := by
  classical
  obtain ⟨ao, cap, rfl, hc, hcell⟩ := h
  refine ⟨ex.filter fun p => decide (∃ cur, p.2 = .cells cur 5), ⟨ao, cap, rfl, hc, fun j u hu => ?_⟩, fun p hp => ?_⟩
  · obtain ⟨g, cur, off, rfl, hm, hu'⟩ := hcell j u hu
    exact ⟨g, cur, off, rfl, List.mem_filter.2 ⟨hm, by simp⟩, hu'⟩
  · have := List.mem_filter.1 hp
    exact ⟨this.1, by simpa using this.2⟩
theorem Holds.key {w0 w : World} {S : List Nat} {bs : List (Nat × Obj)} {rows : List Row} (h : Holds w0 S bs rows w) {g : Nat} {o o' : Obj} (h1 : (g, o) ∈ bs) (h2 : (g, o') ∈ bs) : o = o' := by
  have a := h.blk _ h1
  have b := h.blk _ h2
  simp only at a b
  rw [a] at b
  exact Option.some.inj b
theorem HashAt.mono {bs bs' : List (Nat × Obj)} {g : Nat} {l : List UInt8} (h : HashAt bs g l) (hs : ∀ p ∈ bs, p ∈ bs') : HashAt bs' g l := by
  obtain ⟨rv, ex, h1, h2, h3⟩ := h
  exact ⟨rv, ex, hs _ h1, h2, fun p hp => ⟨hs _ (h3 p hp).1, (h3 p hp).2⟩⟩
theorem HashAt.byts {w0 w : World} {S : List Nat} {bs : List (Nat × Obj)} {rows : List Row} {g : Nat} {l : List UInt8} (h : HashAt bs g l) (hH : Holds w0 S bs rows w) :
    ∃ rv, w.heap[g]? = some (objC (hcells (absorb initS l).1 rv l.length) 118) ∧ Byts w rv (absorb initS l).2 := by
  obtain ⟨rv, ex, h1, h2, h3⟩ := h
  exact ⟨rv, hH.blk _ h1, h2.byts hH fun q hq => (h3 q hq).1⟩
end Go.Proofs.Ytgkfopodhikckaa

/- The laws Sha256Lengths and Sha256Write: they return true. Condition: slices of at most 2^47 bytes. -/
namespace Go.Proofs.Ytgkfopodhikckaa
open Go.RowKit
/-- A slice of slices of bytes that is read. -/
def Pcs (w : World) (v : Value) (ls : List (List UInt8)) : Prop :=
  ∃ cs, Sl w v 1 ls.length cs ∧ ∀ i, i < ls.length → ∃ u, cs[i]? = some u ∧ Byts w u (ls.getD i [])
section
variable {P : Program} {ops : Array Oper} {rest : List Oper} {a : Act} {dst : Option Tmp} {ty : TypeId} {pos : String} {after : Array Edge} {guard : Option (Nat × Bool)} {w w0 : World} {S : List Nat} {bs : List (Nat × Obj)} {rows : List Row} {Q : Exit → Act → World → Prop}
end
end Go.Proofs.Ytgkfopodhikckaa

/- From the walks of the laws to their rows: what is alike. No condition. -/
namespace Go.Proofs.Ytgkfopodhikckaa
open Go.ChangeShapes Go.WideShapes Go.ChangeAt Go.RowKit
theorem Try.own : ownKnob Try.prog.godebug = none := by kernel_rfl
theorem Try.laidOut : laidOutB Try.prog = true := by kernel_rfl
theorem cells5 : Try.prog.cellsOf 5 = 1 := by kernel_rfl
theorem readable_of {ts : List TypeId} (h : (ts.all fun t => Try.prog.readableRec t && decide (t < Try.prog.types.size)) = true) : ∀ t ∈ ts, Try.prog.readableRec t = true ∧ t < Try.prog.types.size := by
  intro t ht
  have := List.all_eq_true.1 h t ht
  simpa using this
end Go.Proofs.Ytgkfopodhikckaa

/- Rows of arrays: lists of nodes, of identities. No condition. -/
namespace Go.Proofs.Ytgkfopodhikckaa
open Go.RowKit
/-- A row of arrays of the call's own. -/
@[reducible] def rowA {n : Nat} (e : TypeId) (ao : Option Addr) (cap : Nat) (l : List (Arr n)) : Row := ⟨.slice ao l.length cap, e, n, l.length, flat l⟩
/-- A slice of arrays that is read. -/
abbrev Arrs {n : Nat} (w : World) (v : Value) (l : List (Arr n)) : Prop := Sl w v n l.length (flat l)
theorem Arrs.of {m : Nat} {w : World} {v : Value} {n : Nat} {l : List (Arr m)} {cs : List Value} (h : Sl w v m n cs) (hn : n = l.length) (hc : cs = flat l) : Arrs w v l := by subst hn hc; exact h
theorem Arrs.get {n : Nat} {w : World} {a : Addr} {cap : Nat} {l : List (Arr n)} (h : Arrs w (.slice (some a) l.length cap) l) (k : Nat) (hk : k < l.length) : ∀ j u, (l[k]).cells[j]? = some u → w.cell? ((a.add (k * n)).add j) = some u := by
  intro j u hu
  have hj : j < n := by
    have := (List.getElem?_eq_some_iff.1 hu).1
    rwa [Arr.len] at this
  have h1 := h.cell (k * n + j) u (by rw [flat_get l k hk j hj]; exact hu)
  have e : (a.add (k * n)).add j = a.add (k * n + j) := by
    unfold Addr.add; split <;> split <;> simp_all <;> omega
  rw [e]; exact h1
theorem Arrs.take {m : Nat} {w : World} {ao : Option Addr} {cap : Nat} {l : List (Arr m)} {j : Nat} (h : Arrs w (.slice ao l.length cap) l) (hj : j ≤ l.length) : Arrs w (.slice ao j cap) (l.take j) := by
  have h1 := Sl.take h hj
  exact Arrs.of h1 (by rw [List.length_take]; omega) (flat_take l j)
section
variable {P : Program} {w w0 : World} {S : List Nat} {bs : List (Nat × Obj)} {rows : List Row} {ops : Array Oper} {rest : List Oper} {a : Act} {dst : Option Tmp} {ty : TypeId} {pos : String} {after : Array Edge} {guard : Option (Nat × Bool)} {Q : Exit → Act → World → Prop}
theorem wpL_buildA {n : Nat} {t e : TypeId} {bytes : Nat} (hE : Elem P t e n bytes) (x : Arr n) (hn : n ≤ 16777216) {parts : Array (Nat × Operand)} (hp : (parts.toList.map fun p => (p.1, a.eval p.2)) = [(0, x.val)]) (hH : Holds w0 S bs rows w)
    (hg : Region.wanted { dst := dst, op := .buildSlice t 1 parts, type := ty, pos := pos, after := after, guard := guard } (yielded ops a.tmps) = true)
    (h : ∀ g w', Holds w0 S bs (rowA e (some ⟨g, 0, none⟩) 1 [x] :: rows) w' → wpList P ops Q rest (a.put dst (.slice (some ⟨g, 0, none⟩) 1 1)) w') :
    wpList P ops Q ({ dst := dst, op := .buildSlice t 1 parts, type := ty, pos := pos, after := after, guard := guard } :: rest) a w :=
  wpList_buildArr hE [x] hH rfl hp (by omega) hg h
theorem wpL_appendA {k : Nat} {t e : TypeId} {bytes : Nat} {ao ax : Option Addr} {ca cx n m : Nat} {l l2 r : List (Arr k)} (hE : Elem P t e k bytes) (hH : Holds w0 S bs (⟨.slice ao n ca, e, k, n, flat l⟩ :: rows) w) (hx : Sl w (.slice ax m cx) k m (flat l2)) (hr : l ++ l2 = r) (hn : n = l.length) (hm : m = l2.length) (hb : (l.length + l2.length) * bytes ≤ 140737488355328) {s y : Operand} (hs : a.eval s = .slice ao n ca) (hy : a.eval y = .slice ax m cx)
    (hg : Region.wanted { dst := dst, op := .call { callee := .builtin .append, args := #[s, y], argTypes := #[t, t] }, type := ty, pos := pos, after := after, guard := guard } (yielded ops a.tmps) = true)
    (h : ∀ ao cap w', Holds w0 S bs (rowA e ao cap r :: rows) w' → wpList P ops Q rest (a.put dst (.slice ao r.length cap)) w') :
    wpList P ops Q ({ dst := dst, op := .call { callee := .builtin .append, args := #[s, y], argTypes := #[t, t] }, type := ty, pos := pos, after := after, guard := guard } :: rest) a w := by
  subst hn hm hr
  refine wpList_append hE hH hx (flat_cell1 _) hb hs hy hg fun ao cap w' h' => ?_
  have := h ao cap w' (by simpa only [rowA, List.length_append, flat_append] using h')
  rwa [List.length_append] at this
end
end Go.Proofs.Ytgkfopodhikckaa

/- Rules for merkle: an element of a list of arrays is read, a byte of an array variable is written, numbers cut to bytes and words. No condition. -/
namespace Go.Proofs.Ytgkfopodhikckaa
open Go.RowKit
section
variable {P : Program} {w0 w : World} {S : List Nat} {bs bs' : List (Nat × Obj)} {rows : List Row} {ops : Array Oper} {rest : List Oper} {a : Act} {Q : Exit → Act → World → Prop} {C : World → Prop} {K : Act → Prop} {dst : Option Tmp} {ty : TypeId} {pos : String} {after : Array Edge} {guard : Option (Nat × Bool)}
/-- An array of bytes that lies somewhere is read. -/
theorem wpL_loadEl {t : TypeId} {n : Nat} {v : Arr n} {ad : Addr} (hA : AggT P t n) (hc : ∀ j u, v.cells[j]? = some u → w.cell? (ad.add j) = some u) {x : Operand} (hx : a.eval x = .pointer (some ad))
    (hg : Region.wanted { dst := dst, op := .load t x, type := ty, pos := pos, after := after, guard := guard } (yielded ops a.tmps) = true)
    (h : wpList P ops Q rest (a.put dst v.val) w) : wpList P ops Q ({ dst := dst, op := .load t x, type := ty, pos := pos, after := after, guard := guard } :: rest) a w :=
  wpList_load_agg hA (Arr.len v) hc hx hg h
theorem wpQ_loadEl {t : TypeId} {n : Nat} {v : Arr n} {ad : Addr} (hA : AggT P t n) (hc : ∀ w, C w → ∀ j u, v.cells[j]? = some u → w.cell? (ad.add j) = some u) {x : Operand} (hx : a.eval x = .pointer (some ad))
    (hg : Region.wanted { dst := dst, op := .load t x, type := ty, pos := pos, after := after, guard := guard } (yielded ops a.tmps) = true)
    (h : wpQuiet P ops C K rest (a.put dst v.val)) : wpQuiet P ops C K ({ dst := dst, op := .load t x, type := ty, pos := pos, after := after, guard := guard } :: rest) a :=
  wpQ_load_agg hA (Arr.len v) hc hx hg h
/-- A byte of an array variable is written. -/
theorem wpL_storeAB {t e : TypeId} {b : UInt8} {g m : Nat} {l l' : List UInt8} {x y : Operand} (hi : (P.info? t).map (·.size) = some 1) (hH : Holds w0 S bs rows w) (hx : a.eval x = .pointer (some ⟨g, 0 + m, none⟩)) (hy : a.eval y = byt b) (ht : Turn bs g (objC (l.map byt) e) (objC (l'.map byt) e) bs') (hl : l.set m b = l') (hm : m < l.length)
    (hg : Region.wanted { dst := dst, op := .store t x y, type := ty, pos := pos, after := after, guard := guard } (yielded ops a.tmps) = true)
    (h : ∀ w', Holds w0 S bs' rows w' → wpList P ops Q rest (a.put dst undef) w') :
    wpList P ops Q ({ dst := dst, op := .store t x y, type := ty, pos := pos, after := after, guard := guard } :: rest) a w := by
  subst hl
  rw [Nat.zero_add] at hx
  rw [List.map_set] at ht
  exact wpL_store1 hx hy rfl hi hH ht rfl (by simpa using hm) hg h
theorem wpL_indexV0 {t e : TypeId} {n g m : Nat} {q : Int} {k : IntKind} {x i : Operand} (ht : P.underlying t = some (.array n e)) (he : (P.info? e).map (·.size) = some 1) (hx : a.eval x = .pointer (some ⟨g, 0, none⟩)) (hi : a.eval i = .int k q) (hq : q = (m : Int)) (hm : m < n)
    (hg : Region.wanted { dst := dst, op := .indexAddr t x i, type := ty, pos := pos, after := after, guard := guard } (yielded ops a.tmps) = true)
    (h : wpList P ops Q rest (a.put dst (.pointer (some ⟨g, 0 + m, none⟩))) w) : wpList P ops Q ({ dst := dst, op := .indexAddr t x i, type := ty, pos := pos, after := after, guard := guard } :: rest) a w :=
  wpL_indexVar ht he hx hi hq hm hg h
theorem wpL_appendBr {ao ax : Option Addr} {ca cx n m : Nat} {l l2 r : List UInt8} (hH : Holds w0 S bs (⟨.slice ao n ca, 5, 1, n, l.map byt⟩ :: rows) w) (hx : Sl w (.slice ax m cx) 1 m (l2.map byt)) (hr : l ++ l2 = r) (hn : n = l.length) (hm : m = l2.length) (hb : l.length + l2.length ≤ 100000000) {s y : Operand} (hs : a.eval s = .slice ao n ca) (hy : a.eval y = .slice ax m cx)
    (hg : Region.wanted { dst := dst, op := .call { callee := .builtin .append, args := #[s, y], argTypes := #[22, 22] }, type := ty, pos := pos, after := after, guard := guard } (yielded ops a.tmps) = true)
    (h : ∀ ao cap w', Holds w0 S bs (rowB ao cap r :: rows) w' → wpList Try.prog ops Q rest (a.put dst (.slice ao r.length cap)) w') :
    wpList Try.prog ops Q ({ dst := dst, op := .call { callee := .builtin .append, args := #[s, y], argTypes := #[22, 22] }, type := ty, pos := pos, after := after, guard := guard } :: rest) a w := by
  subst hr; exact wpL_appendB hH hx hn hm hb hs hy hg h
/-- An int cut to a byte, to a word. -/
def i2b (i : Int) : UInt8 := UInt8.ofNat (i % 256).toNat
def i2w (i : Int) : W32 := BitVec.ofNat 32 (i % 4294967296).toNat
theorem run_i2b {s d : TypeId} {z : TypeDesc} (hs : P.underlying s = some z) (hd : P.underlying d = some (.int .u8)) (k : IntKind) (i : Int) (w : World) : (convert s d (.int k i)).run P w = .ok (byt (i2b i)) w := by
  simp only [convert, Sem.run_bind, run_underlying hs, run_underlying hd, Result.andThen_ok, Conv.intToInt, Sem.run_pure]
  have e : IntKind.u8.wrap i = i % 256 := rfl
  rw [e]
  simp only [byt, i2b, UInt8.toNat_ofNat']
  congr 3
  omega
theorem run_i2w {s d : TypeId} {z : TypeDesc} (hs : P.underlying s = some z) (hd : P.underlying d = some (.int .u32)) (k : IntKind) (i : Int) (w : World) : (convert s d (.int k i)).run P w = .ok (wrd (i2w i)) w := by
  simp only [convert, Sem.run_bind, run_underlying hs, run_underlying hd, Result.andThen_ok, Conv.intToInt, Sem.run_pure]
  have e : IntKind.u32.wrap i = i % 4294967296 := rfl
  rw [e]
  simp only [wrd, i2w, BitVec.toNat_ofNat]
  congr 3
  omega
theorem wpL_i2b {s d : TypeId} {z : TypeDesc} {x : Operand} {k : IntKind} {i : Int} {b : UInt8} (hs : P.underlying s = some z) (hd : P.underlying d = some (.int .u8)) (hx : a.eval x = .int k i) (hb : i2b i = b)
    (hg : Region.wanted { dst := dst, op := .convert s d x, type := ty, pos := pos, after := after, guard := guard } (yielded ops a.tmps) = true)
    (h : wpList P ops Q rest (a.put dst (byt b)) w) : wpList P ops Q ({ dst := dst, op := .convert s d x, type := ty, pos := pos, after := after, guard := guard } :: rest) a w := by
  subst hb
  exact wpList_ex hg (by simp only [execOp, hx, Sem.run_bind, run_i2b hs hd, Result.andThen_ok, Sem.run_pure]) h
theorem wpL_i2w {s d : TypeId} {z : TypeDesc} {x : Operand} {k : IntKind} {i : Int} {u : W32} (hs : P.underlying s = some z) (hd : P.underlying d = some (.int .u32)) (hx : a.eval x = .int k i) (hb : i2w i = u)
    (hg : Region.wanted { dst := dst, op := .convert s d x, type := ty, pos := pos, after := after, guard := guard } (yielded ops a.tmps) = true)
    (h : wpList P ops Q rest (a.put dst (wrd u)) w) : wpList P ops Q ({ dst := dst, op := .convert s d x, type := ty, pos := pos, after := after, guard := guard } :: rest) a w := by
  subst hb
  exact wpList_ex hg (by simp only [execOp, hx, Sem.run_bind, run_i2w hs hd, Result.andThen_ok, Sem.run_pure]) h
end
abbrev Nd := Arr 16
abbrev Nd0 : Nd := Arr.zero 16
/-- The hash of bytes. -/
def hashN (l : List UInt8) : Nd := halfA (sumB l)
def leafPre (i : Int) : List UInt8 := [0, w2b (i2w i >>> 24), w2b (i2w i >>> 16), w2b (i2w i >>> 8), w2b (i2w i)]
def leafN (i : Int) (l : List UInt8) : Nd := hashN (leafPre i ++ l)
def joinN (i : Int) (x y : Nd) : Nd := hashN ([1, i2b i] ++ x.1 ++ y.1)
end Go.Proofs.Ytgkfopodhikckaa

/- hash and Leaf of merkle; half, Leaf, Join of the reference. Condition: at most 900000 bytes. -/
namespace Go.Proofs.Ytgkfopodhikckaa
open Go.RowKit
attribute [local irreducible] wpQuiet wpList
set_option maxRecDepth 100000 in
set_option maxHeartbeats 2000000 in
theorem hash_any (w : World) (v : Value) (l : List UInt8) (hl : Byts w v l) (hn : l.length ≤ 900000) : Calls Try.prog 65 #[v] w (RetA w (hashN l)) := by
  obtain ⟨ao, cap, rfl, hc⟩ := hl.shape
  have HL := hid hl
  clear hl
  have HH := hid (Holds.init w)
  obtain ⟨d, hd⟩ : ∃ d, hashN l = d := ⟨_, rfl⟩
  have HD := hid (show halfA (sumB l) = d from hd)
  rw [hd]
  clear hd
  go_enter Try.func65, Try.ntmps65
  go_wp2_with (first
    | ((first
        | ((with_reducible apply wpL_skip); rfl; skip)
        | (go_at_call 35; (with_reducible refine (sumHalf_any _ _ l (HH.out.sl HL.out) hn).mono ?_); rw [HD.out]; rintro e_ w2_ ⟨rfl, hb_⟩; (have hq_ := HH.out.grow hb_); clear HH; have HH := hid hq_; clear hq_ hb_)
        | ((with_reducible apply wpL_storeC (t := 34) (vs := d.cells)); rfl; rfl; (exact kS34); (exact HH.out); (exact .here); (exact Arr.len _); (exact cells_one _); (exact Arr.len _); rfl; (intro w_ hq_; clear HH; have HH := hid hq_; clear hq_))
        | ((with_reducible apply wpL_nilCheck); rfl; rfl)
        | ((with_reducible apply wpL_allocC (dst := some 2) kZ34 HH.out); rfl; (intro g2_ w_ hq_; (try simp only [List.set_cons_zero, List.set_cons_succ] at hq_); clear HH; have HH := hid hq_; clear hq_))
        | ((with_reducible apply wpL_storeArr (t := 34) kS34 HH.out); rfl; rfl; (first | exact .here | exact .there .here | exact .there (.there .here) | exact .there (.there (.there .here)) | exact .there (.there (.there (.there .here))) | exact .there (.there (.there (.there (.there .here)))) | exact .there (.there (.there (.there (.there (.there .here))))) | exact .there (.there (.there (.there (.there (.there (.there .here))))))); (first | rfl | exact Arr.len _ | (simp; done)); rfl; (intro w_ hq_; (try simp only [List.set_cons_zero, List.set_cons_succ] at hq_); clear HH; have HH := hid hq_; clear hq_))
        | ((with_reducible apply wpL_storeC (t := 34)); rfl; rfl; (exact kS34); (exact HH.out); (first | exact .here | exact .there .here | exact .there (.there .here) | exact .there (.there (.there .here)) | exact .there (.there (.there (.there .here))) | exact .there (.there (.there (.there (.there .here)))) | exact .there (.there (.there (.there (.there (.there .here))))) | exact .there (.there (.there (.there (.there (.there (.there .here))))))); (first | rfl | exact Arr.len _ | (simp; done)); (first | rfl | (intro u_ hu_; simp only [List.mem_cons, List.not_mem_nil, or_false] at hu_; rcases hu_ with rfl | hu_; rfl) | exact byt_cell1 _ | exact cells_one _ | exact wrd_one _ | exact flat_cell1 _); (first | rfl | exact Arr.len _ | (simp; done)); rfl; (intro w_ hq_; (try simp only [List.set_cons_zero, List.set_cons_succ] at hq_); clear HH; have HH := hid hq_; clear hq_))
        | ((with_reducible apply wpL_move); rfl; rfl)
        | ((with_reducible apply wpL_assign); rfl; rfl)
        | ((with_reducible apply wpL_pick); rfl; rfl; rfl)
        | ((with_reducible apply wpL_not); rfl; rfl)
        | ((with_reducible apply wpL_cmp (b := true)); rfl; rfl; rfl; (first | rfl | assumption | (simp only [cmpB, decide_eq_true_eq, decide_eq_false_iff_not, beq_iff_eq, bne_iff_ne, ne_eq, beq_eq_false_iff_ne, bne_eq_false_iff_eq, gt_iff_lt, ge_iff_le]; omega) | (simp; omega)); rfl)
        | ((with_reducible apply wpL_cmp (b := false)); rfl; rfl; rfl; (first | rfl | assumption | (simp only [cmpB, decide_eq_true_eq, decide_eq_false_iff_not, beq_iff_eq, bne_iff_ne, ne_eq, beq_eq_false_iff_ne, bne_eq_false_iff_eq, gt_iff_lt, ge_iff_le]; omega) | (simp; omega)); rfl)
        | ((with_reducible apply wpL_cmp); rfl; rfl; rfl; rfl; rfl)
        | ((with_reducible apply wpL_arith); rfl; rfl; rfl; (exact IntWalk.i64_in _ (by (try simp only [arithI]); omega)); rfl)); (try simp only [arithI, Act.put, Act.eval, List.setIfInBounds_toArray, List.set_cons_succ, List.set_cons_zero, Array.getD_eq_getD_getElem?, List.getElem?_toArray, List.getElem?_cons_succ, List.getElem?_cons_zero, Option.getD_some])))
  refine bodyPost_ret (res1 rfl (resC kA34 HH.out (by rfl) .here (Arr.len _))) rfl ?_
  exact ⟨rfl, HH.out.below⟩
set_option maxRecDepth 100000 in
set_option maxHeartbeats 2000000 in
theorem leaf_any (w : World) (i : Int) (v : Value) (l : List UInt8) (hl : Byts w v l) (hn : l.length ≤ 800000) : Calls Try.prog 45 #[.int .i64 i, v] w (RetA w (leafN i l)) := by
  obtain ⟨ao, cap, rfl, hc⟩ := hl.shape
  have HL := hid hl
  clear hl
  have HH := hid (Holds.init w)
  obtain ⟨pre, hp⟩ : ∃ pre, leafPre i = pre := ⟨_, rfl⟩
  have HP := hid hp
  have HPL := hid (show pre.length = 5 by rw [← hp]; rfl)
  obtain ⟨d, hd⟩ : ∃ d, leafN i l = d := ⟨_, rfl⟩
  obtain ⟨al, hal⟩ : ∃ al, pre ++ l = al := ⟨_, rfl⟩
  have HAL := hid hal
  have HD := hid (show hashN al = d by rw [← hal, ← hp]; exact hd)
  rw [hd]
  have hlen : al.length ≤ 900000 := by rw [← hal, List.length_append, HPL.out]; omega
  have HLEN := hid hlen
  clear hd hp hlen hal
  go_enter Try.func45, Try.ntmps45
  go_wp2_with (first
    | ((first
        | ((with_reducible apply wpL_skip); rfl; skip)
        | ((with_reducible apply wpL_i2w (u := i2w i) Try.underlying3 Try.underlying105); rfl; rfl; rfl)
        | ((with_reducible apply wpL_wshr (p := i2w i)); rfl; rfl; (exact (by decide)); rfl)
        | ((with_reducible apply wpL_w2b (dst := some 10) (p := i2w i >>> 24) Try.underlying105 Try.underlying5); rfl; rfl)
        | ((with_reducible apply wpL_w2b (dst := some 13) (p := i2w i >>> 16) Try.underlying105 Try.underlying5); rfl; rfl)
        | ((with_reducible apply wpL_w2b (dst := some 16) (p := i2w i >>> 8) Try.underlying105 Try.underlying5); rfl; rfl)
        | ((with_reducible apply wpL_w2b (dst := some 18) (p := i2w i) Try.underlying105 Try.underlying5); rfl; rfl)
        | ((with_reducible apply wpL_buildB pre); (exact HPL.out.symm); (rw [← HP.out]; rfl); (exact (by decide)); (exact HH.out); rfl; (intro g_ w_ hq_; simp only [rowB, HPL.out] at hq_; clear HH; have HH := hid hq_; clear hq_))
        | ((with_reducible apply wpL_appendBr (n := 5) (l := pre) (l2 := l) (r := al) HH.out (HH.out.sl HL.out) HAL.out); (exact HPL.out.symm); rfl; (have := HPL.out; omega); rfl; rfl; rfl; (intro ao2 cap2 w_ hq_; clear HH; have HH := hid hq_; clear hq_))
        | (go_at_call 65; (with_reducible refine (hash_any _ _ al HH.out.sl0 HLEN.out).mono ?_); rw [HD.out]; rintro e_ w2_ ⟨rfl, hb_⟩; (have hq_ := HH.out.grow hb_); clear HH; have HH := hid hq_; clear hq_ hb_)
        | ((with_reducible apply wpL_storeC (t := 34) (vs := d.cells)); rfl; rfl; (exact kS34); (exact HH.out); (exact .here); (exact Arr.len _); (exact cells_one _); (exact Arr.len _); rfl; (intro w_ hq_; clear HH; have HH := hid hq_; clear hq_))
        | ((with_reducible apply wpL_nilCheck); rfl; rfl)
        | ((with_reducible apply wpL_allocC (dst := some 4) kZ34 HH.out); rfl; (intro g4_ w_ hq_; (try simp only [List.set_cons_zero, List.set_cons_succ] at hq_); clear HH; have HH := hid hq_; clear hq_))
        | ((with_reducible apply wpL_storeArr (t := 34) kS34 HH.out); rfl; rfl; (first | exact .here | exact .there .here | exact .there (.there .here) | exact .there (.there (.there .here)) | exact .there (.there (.there (.there .here))) | exact .there (.there (.there (.there (.there .here)))) | exact .there (.there (.there (.there (.there (.there .here))))) | exact .there (.there (.there (.there (.there (.there (.there .here))))))); (first | rfl | exact Arr.len _ | (simp; done)); rfl; (intro w_ hq_; (try simp only [List.set_cons_zero, List.set_cons_succ] at hq_); clear HH; have HH := hid hq_; clear hq_))
        | ((with_reducible apply wpL_storeC (t := 34)); rfl; rfl; (exact kS34); (exact HH.out); (first | exact .here | exact .there .here | exact .there (.there .here) | exact .there (.there (.there .here)) | exact .there (.there (.there (.there .here))) | exact .there (.there (.there (.there (.there .here)))) | exact .there (.there (.there (.there (.there (.there .here))))) | exact .there (.there (.there (.there (.there (.there (.there .here))))))); (first | rfl | exact Arr.len _ | (simp; done)); (first | rfl | (intro u_ hu_; simp only [List.mem_cons, List.not_mem_nil, or_false] at hu_; rcases hu_ with rfl | hu_; rfl) | exact byt_cell1 _ | exact cells_one _ | exact wrd_one _ | exact flat_cell1 _); (first | rfl | exact Arr.len _ | (simp; done)); rfl; (intro w_ hq_; (try simp only [List.set_cons_zero, List.set_cons_succ] at hq_); clear HH; have HH := hid hq_; clear hq_))
        | ((with_reducible apply wpL_move); rfl; rfl)
        | ((with_reducible apply wpL_assign); rfl; rfl)
        | ((with_reducible apply wpL_pick); rfl; rfl; rfl)
        | ((with_reducible apply wpL_not); rfl; rfl)
        | ((with_reducible apply wpL_cmp (b := true)); rfl; rfl; rfl; (first | rfl | assumption | (simp only [cmpB, decide_eq_true_eq, decide_eq_false_iff_not, beq_iff_eq, bne_iff_ne, ne_eq, beq_eq_false_iff_ne, bne_eq_false_iff_eq, gt_iff_lt, ge_iff_le]; omega) | (simp; omega)); rfl)
        | ((with_reducible apply wpL_cmp (b := false)); rfl; rfl; rfl; (first | rfl | assumption | (simp only [cmpB, decide_eq_true_eq, decide_eq_false_iff_not, beq_iff_eq, bne_iff_ne, ne_eq, beq_eq_false_iff_ne, bne_eq_false_iff_eq, gt_iff_lt, ge_iff_le]; omega) | (simp; omega)); rfl)
        | ((with_reducible apply wpL_cmp); rfl; rfl; rfl; rfl; rfl)
        | ((with_reducible apply wpL_arith); rfl; rfl; rfl; (exact IntWalk.i64_in _ (by (try simp only [arithI]); omega)); rfl)); (try simp only [arithI, Act.put, Act.eval, List.setIfInBounds_toArray, List.set_cons_succ, List.set_cons_zero, Array.getD_eq_getD_getElem?, List.getElem?_toArray, List.getElem?_cons_succ, List.getElem?_cons_zero, Option.getD_some])))
  refine bodyPost_ret (res1 rfl (resC kA34 HH.out (by rfl) .here (Arr.len _))) rfl ?_
  exact ⟨rfl, HH.out.below⟩
/-- The first bytes of an array, the others zero. -/
def fillN (n : Nat) (pre : List UInt8) : List UInt8 := pre ++ List.replicate (n - pre.length) 0
theorem fillN_len {n : Nat} {pre : List UInt8} (h : pre.length ≤ n) : (fillN n pre).length = n := by simp [fillN]; omega
theorem fillN_set {n : Nat} {pre : List UInt8} (c : UInt8) (h : pre.length < n) : (fillN n pre).set pre.length c = fillN n (pre ++ [c]) := by
  unfold fillN
  rw [List.set_append_right _ _ (Nat.le_refl _), Nat.sub_self]
  have e : n - pre.length = (n - (pre ++ [c]).length) + 1 := by simp; omega
  rw [e, List.replicate_succ, List.set_cons_zero, List.append_assoc]
  rfl
theorem fillN_nil (n : Nat) : (fillN n []).map byt = (Arr.zero n).cells := by simp [fillN, Arr.cells, Arr.zero]
def HalfRel (w : World) (d : Arr 32) (g2 g3 g4 : Nat) (i : Value) (wr : World) : Prop :=
  ∃ k : Nat, k ≤ 16 ∧ i = .int .i64 k ∧ Holds w [] [(g4, objC ((fillN 16 (d.1.take k)).map byt) 41), (g3, objC d.cells 24), (g2, objC Nd0.cells 41)] [] wr
set_option maxRecDepth 100000 in
set_option maxHeartbeats 2000000 in
theorem half_any (w : World) (v : Value) (l : List UInt8) (hl : Byts w v l) (hn : l.length ≤ 900000) : Calls Try.prog 72 #[v] w (RetA w (hashN l)) := by
  obtain ⟨ao, cap, rfl, hc⟩ := hl.shape
  have HL := hid hl
  clear hl
  have HH := hid (Holds.init w)
  obtain ⟨d, hd⟩ : ∃ d, sumB l = d := ⟨_, rfl⟩
  have HD := hid hd
  have hh : hashN l = halfA d := by rw [← hd]; rfl
  rw [hh]
  have HDL := hid d.2
  clear hd hh
  go_enter Try.func72, Try.ntmps72
  go_wp2_with (first
    | ((first
        | ((with_reducible apply wpL_skip); rfl; skip)
        | (go_at_call 22; (with_reducible refine (sumR_any _ _ l (HH.out.sl HL.out) (by omega)).mono ?_); rw [HD.out]; rintro e_ w2_ ⟨rfl, hb_⟩; (have hq_ := HH.out.grow hb_); clear HH; have HH := hid hq_; clear hq_ hb_)
        | ((with_reducible apply wpL_storeC (t := 24) (vs := d.cells)); rfl; rfl; (exact kS24); (exact HH.out); (exact .here); (exact Arr.len _); (exact cells_one _); (exact Arr.len _); rfl; (intro w_ hq_; clear HH; have HH := hid hq_; clear hq_))
        | ((with_reducible apply wpL_nilCheck); rfl; rfl)
        | ((with_reducible apply wpL_load1 (t := 5) kO5 HH.out); rfl; (first | exact .here | exact .there .here | exact .there (.there .here) | exact .there (.there (.there .here)) | exact .there (.there (.there (.there .here))) | exact .there (.there (.there (.there (.there .here)))) | exact .there (.there (.there (.there (.there (.there .here))))) | exact .there (.there (.there (.there (.there (.there (.there .here))))))); rfl; rfl)
        | ((with_reducible apply wpL_loadArr (t := 41) kA41 HH.out); rfl; (first | exact .here | exact .there .here | exact .there (.there .here) | exact .there (.there (.there .here)) | exact .there (.there (.there (.there .here))) | exact .there (.there (.there (.there (.there .here)))) | exact .there (.there (.there (.there (.there (.there .here))))) | exact .there (.there (.there (.there (.there (.there (.there .here))))))); rfl)
        | ((with_reducible apply wpL_loadC (t := 41) kA41 HH.out); rfl; (first | exact .here | exact .there .here | exact .there (.there .here) | exact .there (.there (.there .here)) | exact .there (.there (.there (.there .here))) | exact .there (.there (.there (.there (.there .here)))) | exact .there (.there (.there (.there (.there (.there .here))))) | exact .there (.there (.there (.there (.there (.there (.there .here))))))); (first | rfl | exact Arr.len _ | (simp; done)); rfl)
        | ((with_reducible apply wpL_allocC (dst := some 2) kZ41 HH.out); rfl; (intro g2_ w_ hq_; (try simp only [List.set_cons_zero, List.set_cons_succ] at hq_); clear HH; have HH := hid hq_; clear hq_))
        | ((with_reducible apply wpL_allocC (dst := some 3) kZ24 HH.out); rfl; (intro g3_ w_ hq_; (try simp only [List.set_cons_zero, List.set_cons_succ] at hq_); clear HH; have HH := hid hq_; clear hq_))
        | ((with_reducible apply wpL_allocC (dst := some 4) kZ41 HH.out); rfl; (intro g4_ w_ hq_; (try simp only [List.set_cons_zero, List.set_cons_succ] at hq_); clear HH; have HH := hid hq_; clear hq_))
        | ((with_reducible apply wpL_store1 (t := 5)); rfl; rfl; rfl; (exact kS5); (exact HH.out); (first | exact .here | exact .there .here | exact .there (.there .here) | exact .there (.there (.there .here)) | exact .there (.there (.there (.there .here))) | exact .there (.there (.there (.there (.there .here)))) | exact .there (.there (.there (.there (.there (.there .here))))) | exact .there (.there (.there (.there (.there (.there (.there .here))))))); rfl; (first | exact Nat.le_of_ble_eq_true rfl | (simp; done) | omega); rfl; (intro w_ hq_; (try simp only [List.set_cons_zero, List.set_cons_succ] at hq_); clear HH; have HH := hid hq_; clear hq_))
        | ((with_reducible apply wpL_storeArr (t := 24) kS24 HH.out); rfl; rfl; (first | exact .here | exact .there .here | exact .there (.there .here) | exact .there (.there (.there .here)) | exact .there (.there (.there (.there .here))) | exact .there (.there (.there (.there (.there .here)))) | exact .there (.there (.there (.there (.there (.there .here))))) | exact .there (.there (.there (.there (.there (.there (.there .here))))))); (first | rfl | exact Arr.len _ | (simp; done)); rfl; (intro w_ hq_; (try simp only [List.set_cons_zero, List.set_cons_succ] at hq_); clear HH; have HH := hid hq_; clear hq_))
        | ((with_reducible apply wpL_storeC (t := 24)); rfl; rfl; (exact kS24); (exact HH.out); (first | exact .here | exact .there .here | exact .there (.there .here) | exact .there (.there (.there .here)) | exact .there (.there (.there (.there .here))) | exact .there (.there (.there (.there (.there .here)))) | exact .there (.there (.there (.there (.there (.there .here))))) | exact .there (.there (.there (.there (.there (.there (.there .here))))))); (first | rfl | exact Arr.len _ | (simp; done)); (first | rfl | (intro u_ hu_; simp only [List.mem_cons, List.not_mem_nil, or_false] at hu_; rcases hu_ with rfl | hu_; rfl) | exact byt_cell1 _ | exact cells_one _ | exact wrd_one _ | exact flat_cell1 _); (first | rfl | exact Arr.len _ | (simp; done)); rfl; (intro w_ hq_; (try simp only [List.set_cons_zero, List.set_cons_succ] at hq_); clear HH; have HH := hid hq_; clear hq_))
        | ((with_reducible apply wpL_storeArr (t := 41) kS41 HH.out); rfl; rfl; (first | exact .here | exact .there .here | exact .there (.there .here) | exact .there (.there (.there .here)) | exact .there (.there (.there (.there .here))) | exact .there (.there (.there (.there (.there .here)))) | exact .there (.there (.there (.there (.there (.there .here))))) | exact .there (.there (.there (.there (.there (.there (.there .here))))))); (first | rfl | exact Arr.len _ | (simp; done)); rfl; (intro w_ hq_; (try simp only [List.set_cons_zero, List.set_cons_succ] at hq_); clear HH; have HH := hid hq_; clear hq_))
        | ((with_reducible apply wpL_storeC (t := 41)); rfl; rfl; (exact kS41); (exact HH.out); (first | exact .here | exact .there .here | exact .there (.there .here) | exact .there (.there (.there .here)) | exact .there (.there (.there (.there .here))) | exact .there (.there (.there (.there (.there .here)))) | exact .there (.there (.there (.there (.there (.there .here))))) | exact .there (.there (.there (.there (.there (.there (.there .here))))))); (first | rfl | exact Arr.len _ | (simp; done)); (first | rfl | (intro u_ hu_; simp only [List.mem_cons, List.not_mem_nil, or_false] at hu_; rcases hu_ with rfl | hu_; rfl) | exact byt_cell1 _ | exact cells_one _ | exact wrd_one _ | exact flat_cell1 _); (first | rfl | exact Arr.len _ | (simp; done)); rfl; (intro w_ hq_; (try simp only [List.set_cons_zero, List.set_cons_succ] at hq_); clear HH; have HH := hid hq_; clear hq_))
        | ((with_reducible apply wpL_move); rfl; rfl)
        | ((with_reducible apply wpL_assign); rfl; rfl)
        | ((with_reducible apply wpL_pick); rfl; rfl; rfl)
        | ((with_reducible apply wpL_not); rfl; rfl)
        | ((with_reducible apply wpL_cmp (b := true)); rfl; rfl; rfl; (first | rfl | assumption | (simp only [cmpB, decide_eq_true_eq, decide_eq_false_iff_not, beq_iff_eq, bne_iff_ne, ne_eq, beq_eq_false_iff_ne, bne_eq_false_iff_eq, gt_iff_lt, ge_iff_le]; omega) | (simp; omega)); rfl)
        | ((with_reducible apply wpL_cmp (b := false)); rfl; rfl; rfl; (first | rfl | assumption | (simp only [cmpB, decide_eq_true_eq, decide_eq_false_iff_not, beq_iff_eq, bne_iff_ne, ne_eq, beq_eq_false_iff_ne, bne_eq_false_iff_eq, gt_iff_lt, ge_iff_le]; omega) | (simp; omega)); rfl)
        | ((with_reducible apply wpL_cmp); rfl; rfl; rfl; rfl; rfl)
        | ((with_reducible apply wpL_arith); rfl; rfl; rfl; (exact IntWalk.i64_in _ (by (try simp only [arithI]); omega)); rfl)); (try simp only [arithI, Act.put, Act.eval, List.setIfInBounds_toArray, List.set_cons_succ, List.set_cons_zero, Array.getD_eq_getD_getElem?, List.getElem?_toArray, List.getElem?_cons_succ, List.getElem?_cons_zero, Option.getD_some])))
  go_loopw [5] (HalfRel w d g2_ g3_ g4_) (fun i _ => 16 - (intOf i).toNat)
  case atStart => exact ⟨0, by omega, rfl, by rw [List.take_zero, fillN_nil]; exact HH.out⟩
  case round =>
    obtain ⟨k, hk, rfl, hr⟩ := hrel
    clear HH
    have HH := hid hr
    clear hr
    by_cases hlt : k < 16
    · have hkl : k < d.1.length := by rw [HDL.out]; omega
      have HTL := hid (show (d.1.take k).length = k by rw [List.length_take]; omega)
      have HB := hid (show d.cells[0 + k]? = some (byt (d.1.getD k 0)) by rw [Nat.zero_add]; simp [Arr.cells, hkl])
      have HST := hid (show (fillN 16 (d.1.take k)).set k (d.1.getD k 0) = fillN 16 (d.1.take (k + 1)) by
        have := fillN_set (n := 16) (pre := d.1.take k) (d.1.getD k 0) (by rw [HTL.out]; exact hlt)
        rw [HTL.out] at this
        rw [this, ← List.take_append_getElem hkl]
        simp [hkl])
      have HFL := hid (show k < (fillN 16 (d.1.take k)).length by rw [fillN_len (by rw [HTL.out]; omega)]; exact hlt)
      obtain ⟨c, hc⟩ : ∃ c, d.1.getD k 0 = c := ⟨_, rfl⟩
      rw [hc] at HB HST
      clear hc
      obtain ⟨f0, hf0⟩ : ∃ f0, fillN 16 (d.1.take k) = f0 := ⟨_, rfl⟩
      rw [hf0] at HST HFL HH
      clear hf0
      go_wp2_with (first
        | ((first
            | ((with_reducible apply wpL_skip); rfl; skip)
            | ((with_reducible apply wpL_indexV0 (dst := some 14) (m := k) Try.underlying24 kS5); rfl; rfl; rfl; (exact (by omega)); rfl)
            | ((with_reducible apply wpL_load1 (dst := some 15) (j := 0 + k) (v := byt c) kO5 HH.out); rfl; (exact .there .here); (exact HB.out); rfl)
            | ((with_reducible apply wpL_indexV0 (dst := some 16) (m := k) Try.underlying41 kS5); rfl; rfl; rfl; (exact (by omega)); rfl)
            | ((with_reducible apply wpL_storeAB (b := c) (m := k) (l := f0) (l' := fillN 16 (d.1.take (k + 1))) kS5 HH.out); rfl; rfl; (exact .here); (exact HST.out); (exact HFL.out); rfl; (intro w_ hq_; clear HH; have HH := hid hq_; clear hq_))
            | ((with_reducible apply wpL_nilCheck); rfl; rfl)
            | ((with_reducible apply wpL_load1 (t := 5) kO5 HH.out); rfl; (first | exact .here | exact .there .here | exact .there (.there .here) | exact .there (.there (.there .here)) | exact .there (.there (.there (.there .here))) | exact .there (.there (.there (.there (.there .here)))) | exact .there (.there (.there (.there (.there (.there .here))))) | exact .there (.there (.there (.there (.there (.there (.there .here))))))); rfl; rfl)
            | ((with_reducible apply wpL_loadArr (t := 41) kA41 HH.out); rfl; (first | exact .here | exact .there .here | exact .there (.there .here) | exact .there (.there (.there .here)) | exact .there (.there (.there (.there .here))) | exact .there (.there (.there (.there (.there .here)))) | exact .there (.there (.there (.there (.there (.there .here))))) | exact .there (.there (.there (.there (.there (.there (.there .here))))))); rfl)
            | ((with_reducible apply wpL_loadC (t := 41) kA41 HH.out); rfl; (first | exact .here | exact .there .here | exact .there (.there .here) | exact .there (.there (.there .here)) | exact .there (.there (.there (.there .here))) | exact .there (.there (.there (.there (.there .here)))) | exact .there (.there (.there (.there (.there (.there .here))))) | exact .there (.there (.there (.there (.there (.there (.there .here))))))); (first | rfl | exact Arr.len _ | (simp; done)); rfl)
            | ((with_reducible apply wpL_allocC (dst := some 2) kZ41 HH.out); rfl; (intro g2_ w_ hq_; (try simp only [List.set_cons_zero, List.set_cons_succ] at hq_); clear HH; have HH := hid hq_; clear hq_))
            | ((with_reducible apply wpL_allocC (dst := some 3) kZ24 HH.out); rfl; (intro g3_ w_ hq_; (try simp only [List.set_cons_zero, List.set_cons_succ] at hq_); clear HH; have HH := hid hq_; clear hq_))
            | ((with_reducible apply wpL_allocC (dst := some 4) kZ41 HH.out); rfl; (intro g4_ w_ hq_; (try simp only [List.set_cons_zero, List.set_cons_succ] at hq_); clear HH; have HH := hid hq_; clear hq_))
            | ((with_reducible apply wpL_store1 (t := 5)); rfl; rfl; rfl; (exact kS5); (exact HH.out); (first | exact .here | exact .there .here | exact .there (.there .here) | exact .there (.there (.there .here)) | exact .there (.there (.there (.there .here))) | exact .there (.there (.there (.there (.there .here)))) | exact .there (.there (.there (.there (.there (.there .here))))) | exact .there (.there (.there (.there (.there (.there (.there .here))))))); rfl; (first | exact Nat.le_of_ble_eq_true rfl | (simp; done) | omega); rfl; (intro w_ hq_; (try simp only [List.set_cons_zero, List.set_cons_succ] at hq_); clear HH; have HH := hid hq_; clear hq_))
            | ((with_reducible apply wpL_storeArr (t := 24) kS24 HH.out); rfl; rfl; (first | exact .here | exact .there .here | exact .there (.there .here) | exact .there (.there (.there .here)) | exact .there (.there (.there (.there .here))) | exact .there (.there (.there (.there (.there .here)))) | exact .there (.there (.there (.there (.there (.there .here))))) | exact .there (.there (.there (.there (.there (.there (.there .here))))))); (first | rfl | exact Arr.len _ | (simp; done)); rfl; (intro w_ hq_; (try simp only [List.set_cons_zero, List.set_cons_succ] at hq_); clear HH; have HH := hid hq_; clear hq_))
            | ((with_reducible apply wpL_storeC (t := 24)); rfl; rfl; (exact kS24); (exact HH.out); (first | exact .here | exact .there .here | exact .there (.there .here) | exact .there (.there (.there .here)) | exact .there (.there (.there (.there .here))) | exact .there (.there (.there (.there (.there .here)))) | exact .there (.there (.there (.there (.there (.there .here))))) | exact .there (.there (.there (.there (.there (.there (.there .here))))))); (first | rfl | exact Arr.len _ | (simp; done)); (first | rfl | (intro u_ hu_; simp only [List.mem_cons, List.not_mem_nil, or_false] at hu_; rcases hu_ with rfl | hu_; rfl) | exact byt_cell1 _ | exact cells_one _ | exact wrd_one _ | exact flat_cell1 _); (first | rfl | exact Arr.len _ | (simp; done)); rfl; (intro w_ hq_; (try simp only [List.set_cons_zero, List.set_cons_succ] at hq_); clear HH; have HH := hid hq_; clear hq_))
            | ((with_reducible apply wpL_storeArr (t := 41) kS41 HH.out); rfl; rfl; (first | exact .here | exact .there .here | exact .there (.there .here) | exact .there (.there (.there .here)) | exact .there (.there (.there (.there .here))) | exact .there (.there (.there (.there (.there .here)))) | exact .there (.there (.there (.there (.there (.there .here))))) | exact .there (.there (.there (.there (.there (.there (.there .here))))))); (first | rfl | exact Arr.len _ | (simp; done)); rfl; (intro w_ hq_; (try simp only [List.set_cons_zero, List.set_cons_succ] at hq_); clear HH; have HH := hid hq_; clear hq_))
            | ((with_reducible apply wpL_storeC (t := 41)); rfl; rfl; (exact kS41); (exact HH.out); (first | exact .here | exact .there .here | exact .there (.there .here) | exact .there (.there (.there .here)) | exact .there (.there (.there (.there .here))) | exact .there (.there (.there (.there (.there .here)))) | exact .there (.there (.there (.there (.there (.there .here))))) | exact .there (.there (.there (.there (.there (.there (.there .here))))))); (first | rfl | exact Arr.len _ | (simp; done)); (first | rfl | (intro u_ hu_; simp only [List.mem_cons, List.not_mem_nil, or_false] at hu_; rcases hu_ with rfl | hu_; rfl) | exact byt_cell1 _ | exact cells_one _ | exact wrd_one _ | exact flat_cell1 _); (first | rfl | exact Arr.len _ | (simp; done)); rfl; (intro w_ hq_; (try simp only [List.set_cons_zero, List.set_cons_succ] at hq_); clear HH; have HH := hid hq_; clear hq_))
            | ((with_reducible apply wpL_move); rfl; rfl)
            | ((with_reducible apply wpL_assign); rfl; rfl)
            | ((with_reducible apply wpL_pick); rfl; rfl; rfl)
            | ((with_reducible apply wpL_not); rfl; rfl)
            | ((with_reducible apply wpL_cmp (b := true)); rfl; rfl; rfl; (first | rfl | assumption | (simp only [cmpB, decide_eq_true_eq, decide_eq_false_iff_not, beq_iff_eq, bne_iff_ne, ne_eq, beq_eq_false_iff_ne, bne_eq_false_iff_eq, gt_iff_lt, ge_iff_le]; omega) | (simp; omega)); rfl)
            | ((with_reducible apply wpL_cmp (b := false)); rfl; rfl; rfl; (first | rfl | assumption | (simp only [cmpB, decide_eq_true_eq, decide_eq_false_iff_not, beq_iff_eq, bne_iff_ne, ne_eq, beq_eq_false_iff_ne, bne_eq_false_iff_eq, gt_iff_lt, ge_iff_le]; omega) | (simp; omega)); rfl)
            | ((with_reducible apply wpL_cmp); rfl; rfl; rfl; rfl; rfl)
            | ((with_reducible apply wpL_arith); rfl; rfl; rfl; (exact IntWalk.i64_in _ (by (try simp only [arithI]); omega)); rfl)); (try simp only [arithI, Act.put, Act.eval, List.setIfInBounds_toArray, List.set_cons_succ, List.set_cons_zero, Array.getD_eq_getD_getElem?, List.getElem?_toArray, List.getElem?_cons_succ, List.getElem?_cons_zero, Option.getD_some])))
      go_roundw
      case rel => exact ⟨k + 1, by omega, by go_num, HH.out⟩
      case measure => simp [intOf]; omega
    · obtain rfl : k = 16 := by omega
      have HE := hid (show (fillN 16 (d.1.take 16)).map byt = (halfA d).cells by
        have : (d.1.take 16).length = 16 := by rw [List.length_take, HDL.out]; rfl
        simp [fillN, this, halfA, Arr.cells])
      rw [HE.out] at HH
      go_wp2_with (first
        | ((first
            | ((with_reducible apply wpL_skip); rfl; skip)
            | ((with_reducible apply wpL_loadArr (v := halfA d) kA41 HH.out); rfl; (exact .here); rfl)
            | ((with_reducible apply wpL_storeC (t := 41) (vs := (halfA d).cells)); rfl; rfl; (exact kS41); (exact HH.out); (exact .there (.there .here)); (exact Arr.len _); (exact cells_one _); (exact Arr.len _); rfl; (intro w_ hq_; clear HH; have HH := hid hq_; clear hq_))
            | ((with_reducible apply wpL_nilCheck); rfl; rfl)
            | ((with_reducible apply wpL_load1 (t := 5) kO5 HH.out); rfl; (first | exact .here | exact .there .here | exact .there (.there .here) | exact .there (.there (.there .here)) | exact .there (.there (.there (.there .here))) | exact .there (.there (.there (.there (.there .here)))) | exact .there (.there (.there (.there (.there (.there .here))))) | exact .there (.there (.there (.there (.there (.there (.there .here))))))); rfl; rfl)
            | ((with_reducible apply wpL_loadArr (t := 41) kA41 HH.out); rfl; (first | exact .here | exact .there .here | exact .there (.there .here) | exact .there (.there (.there .here)) | exact .there (.there (.there (.there .here))) | exact .there (.there (.there (.there (.there .here)))) | exact .there (.there (.there (.there (.there (.there .here))))) | exact .there (.there (.there (.there (.there (.there (.there .here))))))); rfl)
            | ((with_reducible apply wpL_loadC (t := 41) kA41 HH.out); rfl; (first | exact .here | exact .there .here | exact .there (.there .here) | exact .there (.there (.there .here)) | exact .there (.there (.there (.there .here))) | exact .there (.there (.there (.there (.there .here)))) | exact .there (.there (.there (.there (.there (.there .here))))) | exact .there (.there (.there (.there (.there (.there (.there .here))))))); (first | rfl | exact Arr.len _ | (simp; done)); rfl)
            | ((with_reducible apply wpL_allocC (dst := some 2) kZ41 HH.out); rfl; (intro g2_ w_ hq_; (try simp only [List.set_cons_zero, List.set_cons_succ] at hq_); clear HH; have HH := hid hq_; clear hq_))
            | ((with_reducible apply wpL_allocC (dst := some 3) kZ24 HH.out); rfl; (intro g3_ w_ hq_; (try simp only [List.set_cons_zero, List.set_cons_succ] at hq_); clear HH; have HH := hid hq_; clear hq_))
            | ((with_reducible apply wpL_allocC (dst := some 4) kZ41 HH.out); rfl; (intro g4_ w_ hq_; (try simp only [List.set_cons_zero, List.set_cons_succ] at hq_); clear HH; have HH := hid hq_; clear hq_))
            | ((with_reducible apply wpL_store1 (t := 5)); rfl; rfl; rfl; (exact kS5); (exact HH.out); (first | exact .here | exact .there .here | exact .there (.there .here) | exact .there (.there (.there .here)) | exact .there (.there (.there (.there .here))) | exact .there (.there (.there (.there (.there .here)))) | exact .there (.there (.there (.there (.there (.there .here))))) | exact .there (.there (.there (.there (.there (.there (.there .here))))))); rfl; (first | exact Nat.le_of_ble_eq_true rfl | (simp; done) | omega); rfl; (intro w_ hq_; (try simp only [List.set_cons_zero, List.set_cons_succ] at hq_); clear HH; have HH := hid hq_; clear hq_))
            | ((with_reducible apply wpL_storeArr (t := 24) kS24 HH.out); rfl; rfl; (first | exact .here | exact .there .here | exact .there (.there .here) | exact .there (.there (.there .here)) | exact .there (.there (.there (.there .here))) | exact .there (.there (.there (.there (.there .here)))) | exact .there (.there (.there (.there (.there (.there .here))))) | exact .there (.there (.there (.there (.there (.there (.there .here))))))); (first | rfl | exact Arr.len _ | (simp; done)); rfl; (intro w_ hq_; (try simp only [List.set_cons_zero, List.set_cons_succ] at hq_); clear HH; have HH := hid hq_; clear hq_))
            | ((with_reducible apply wpL_storeC (t := 24)); rfl; rfl; (exact kS24); (exact HH.out); (first | exact .here | exact .there .here | exact .there (.there .here) | exact .there (.there (.there .here)) | exact .there (.there (.there (.there .here))) | exact .there (.there (.there (.there (.there .here)))) | exact .there (.there (.there (.there (.there (.there .here))))) | exact .there (.there (.there (.there (.there (.there (.there .here))))))); (first | rfl | exact Arr.len _ | (simp; done)); (first | rfl | (intro u_ hu_; simp only [List.mem_cons, List.not_mem_nil, or_false] at hu_; rcases hu_ with rfl | hu_; rfl) | exact byt_cell1 _ | exact cells_one _ | exact wrd_one _ | exact flat_cell1 _); (first | rfl | exact Arr.len _ | (simp; done)); rfl; (intro w_ hq_; (try simp only [List.set_cons_zero, List.set_cons_succ] at hq_); clear HH; have HH := hid hq_; clear hq_))
            | ((with_reducible apply wpL_storeArr (t := 41) kS41 HH.out); rfl; rfl; (first | exact .here | exact .there .here | exact .there (.there .here) | exact .there (.there (.there .here)) | exact .there (.there (.there (.there .here))) | exact .there (.there (.there (.there (.there .here)))) | exact .there (.there (.there (.there (.there (.there .here))))) | exact .there (.there (.there (.there (.there (.there (.there .here))))))); (first | rfl | exact Arr.len _ | (simp; done)); rfl; (intro w_ hq_; (try simp only [List.set_cons_zero, List.set_cons_succ] at hq_); clear HH; have HH := hid hq_; clear hq_))
            | ((with_reducible apply wpL_storeC (t := 41)); rfl; rfl; (exact kS41); (exact HH.out); (first | exact .here | exact .there .here | exact .there (.there .here) | exact .there (.there (.there .here)) | exact .there (.there (.there (.there .here))) | exact .there (.there (.there (.there (.there .here)))) | exact .there (.there (.there (.there (.there (.there .here))))) | exact .there (.there (.there (.there (.there (.there (.there .here))))))); (first | rfl | exact Arr.len _ | (simp; done)); (first | rfl | (intro u_ hu_; simp only [List.mem_cons, List.not_mem_nil, or_false] at hu_; rcases hu_ with rfl | hu_; rfl) | exact byt_cell1 _ | exact cells_one _ | exact wrd_one _ | exact flat_cell1 _); (first | rfl | exact Arr.len _ | (simp; done)); rfl; (intro w_ hq_; (try simp only [List.set_cons_zero, List.set_cons_succ] at hq_); clear HH; have HH := hid hq_; clear hq_))
            | ((with_reducible apply wpL_move); rfl; rfl)
            | ((with_reducible apply wpL_assign); rfl; rfl)
            | ((with_reducible apply wpL_pick); rfl; rfl; rfl)
            | ((with_reducible apply wpL_not); rfl; rfl)
            | ((with_reducible apply wpL_cmp (b := true)); rfl; rfl; rfl; (first | rfl | assumption | (simp only [cmpB, decide_eq_true_eq, decide_eq_false_iff_not, beq_iff_eq, bne_iff_ne, ne_eq, beq_eq_false_iff_ne, bne_eq_false_iff_eq, gt_iff_lt, ge_iff_le]; omega) | (simp; omega)); rfl)
            | ((with_reducible apply wpL_cmp (b := false)); rfl; rfl; rfl; (first | rfl | assumption | (simp only [cmpB, decide_eq_true_eq, decide_eq_false_iff_not, beq_iff_eq, bne_iff_ne, ne_eq, beq_eq_false_iff_ne, bne_eq_false_iff_eq, gt_iff_lt, ge_iff_le]; omega) | (simp; omega)); rfl)
            | ((with_reducible apply wpL_cmp); rfl; rfl; rfl; rfl; rfl)
            | ((with_reducible apply wpL_arith); rfl; rfl; rfl; (exact IntWalk.i64_in _ (by (try simp only [arithI]); omega)); rfl)); (try simp only [arithI, Act.put, Act.eval, List.setIfInBounds_toArray, List.set_cons_succ, List.set_cons_zero, Array.getD_eq_getD_getElem?, List.getElem?_toArray, List.getElem?_cons_succ, List.getElem?_cons_zero, Option.getD_some])))
      refine bodyPost_ret (res1 rfl (resC kA41 HH.out (by rfl) (.there (.there .here)) (Arr.len _))) rfl ?_
      exact ⟨rfl, HH.out.below⟩
end Go.Proofs.Ytgkfopodhikckaa

/- Grow of nothing, Concat, Join. Condition: at most a hundred thousand bytes. -/
namespace Go.Proofs.Ytgkfopodhikckaa
open Go.RowKit
attribute [local irreducible] wpQuiet wpList
section
variable {w0 w : World} {S : List Nat} {bs bs' : List (Nat × Obj)} {rows : List Row} {ops : Array Oper} {rest : List Oper} {a : Act} {Q : Exit → Act → World → Prop} {dst : Option Tmp} {ty : TypeId} {pos : String} {after : Array Edge} {guard : Option (Nat × Bool)}
/-- append(nil, make([]byte, n)...). -/
theorem wpL_appendZ {n : Nat} {q : Int} {x y : Operand} (h0 : 0 < n) (hn : n ≤ 100000) (hx : a.eval x = .slice none 0 0) (hy : a.eval y = .int .i64 q) (hq : q = (n : Int)) (hH : Holds w0 S bs rows w)
    (hg : Region.wanted { dst := dst, op := .call { callee := .builtin .append, args := #[x, y], argTypes := #[22, 3] }, type := ty, pos := pos, after := after, guard := guard } (yielded ops a.tmps) = true)
    (h : ∀ g G w', Holds w0 S bs (⟨.slice (some ⟨g, 0, none⟩) 0 G, 5, 1, 0, []⟩ :: rows) w' → wpList Try.prog ops Q rest (a.put dst (.slice (some ⟨g, 0, none⟩) n G)) w') :
    wpList Try.prog ops Q ({ dst := dst, op := .call { callee := .builtin .append, args := #[x, y], argTypes := #[22, 3] }, type := ty, pos := pos, after := after, guard := guard } :: rest) a w := by
  subst hq
  obtain ⟨ht, hsz, hb1, i, z, hi, hz, hsize, hby, hzs⟩ := E22
  have hr := Lib.run_append_grow_zeros (P := Try.prog) w 22 3 ty 5 i z .i64 .i64 ht Try.underlying3 hi hz none 0 0 [] (run_firstCells_none w.drew i.size 0 0 0) n h0 (by omega) (by omega) (by omega) (by rw [hby]; omega)
    (by rw [hby]; exact growslice_fits (by omega) (by omega))
  have hge : n ≤ grownCap w (0 + n) 0 5 := by have := grownCap_ge w (0 + n) 0 5; omega
  have hle : grownCap w (0 + n) 0 5 ≤ maxLen := grownCap_le_maxLen w (0 + n) 0 5 (by unfold maxLen; omega)
  obtain ⟨G, hG⟩ : ∃ G, grownCap w (0 + n) 0 5 = G := ⟨_, rfl⟩
  rw [hG] at hr hge hle
  obtain ⟨cur, hcur⟩ : ∃ cur, (([] : List Value).toArray ++ Builtin.zeroCells z.cells n ++ Builtin.zeroCells z.cells (G - (0 + n))) = cur := ⟨_, rfl⟩
  have hcs : cur.size = G * 1 := by
    rw [← hcur]
    simp only [Array.size_append, List.size_toArray, size_zeroCells, List.length_nil, hzs]
    omega
  rw [hcur] at hr
  have hb : Below w.heap.size w (w.drew.alloc (.cells cur 5)) := (below_drew w).alloc (Nat.le_refl _) _
  have hrow : (w.drew.alloc (.cells cur 5)).ownsRow w.heap.size 5 1 (.slice (some ⟨w.heap.size, 0, none⟩) 0 G) 0 [] :=
    ⟨rfl, .inr ⟨w.heap.size, G, cur, rfl, Nat.le_refl _, heap_alloc_new w.drew _, Nat.zero_le _, hle, hcs, rfl⟩⟩
  refine wpList_ex hg (v := .slice (some ⟨w.heap.size, 0, none⟩) n G) ?_ (h _ _ _ (hH.addRow hb hrow))
  rw [BigFrame.execOp_builtin, BigFrame.builtin_append]
  simp only [Sem.run_bind, List.map_toArray, List.map_cons, List.map_nil, hx, hy, hr, Result.andThen_ok, Sem.run_pure, Nat.zero_add]
end
def RetGr (w : World) (e : Ending) (w' : World) : Prop :=
  ∃ ao G, e = .returned (.slice ao 0 G) ∧ w'.ownsRow w.heap.size 5 1 (.slice ao 0 G) 0 [] ∧ Below w.heap.size w w'
set_option maxRecDepth 100000 in
set_option maxHeartbeats 2000000 in
theorem growNil_any (w : World) (n : Nat) (h0 : 0 < n) (hn : n ≤ 100000) : Calls Try.prog 81 #[.slice none 0 0, .int .i64 n] w (RetGr w) := by
  have HH := hid (Holds.init w)
  go_enter Try.func81, Try.ntmps81
  go_wp2_with (first
    | ((first
        | ((with_reducible apply wpL_skip); rfl; skip)
        | ((with_reducible apply wpL_appendZ h0 hn); rfl; rfl; (exact (by go_num)); (exact HH.out); rfl; (intro g_ G_ w_ hq_; clear HH; have HH := hid hq_; clear hq_))
        | ((with_reducible apply wpL_nilCheck); rfl; rfl)
        | ((with_reducible apply wpL_len (t := 22) Try.underlying22); rfl; rfl)
        | ((with_reducible apply wpL_move); rfl; rfl)
        | ((with_reducible apply wpL_assign); rfl; rfl)
        | ((with_reducible apply wpL_pick); rfl; rfl; rfl)
        | ((with_reducible apply wpL_not); rfl; rfl)
        | ((with_reducible apply wpL_cmp (b := true)); rfl; rfl; rfl; (first | rfl | assumption | (simp only [cmpB, decide_eq_true_eq, decide_eq_false_iff_not, beq_iff_eq, bne_iff_ne, ne_eq, beq_eq_false_iff_ne, bne_eq_false_iff_eq, gt_iff_lt, ge_iff_le]; omega) | (simp; omega)); rfl)
        | ((with_reducible apply wpL_cmp (b := false)); rfl; rfl; rfl; (first | rfl | assumption | (simp only [cmpB, decide_eq_true_eq, decide_eq_false_iff_not, beq_iff_eq, bne_iff_ne, ne_eq, beq_eq_false_iff_ne, bne_eq_false_iff_eq, gt_iff_lt, ge_iff_le]; omega) | (simp; omega)); rfl)
        | ((with_reducible apply wpL_cmp); rfl; rfl; rfl; rfl; rfl)
        | ((with_reducible apply wpL_arith); rfl; rfl; rfl; (exact IntWalk.i64_in _ (by (try simp only [arithI]); omega)); rfl)); (try simp only [arithI, Act.put, Act.eval, List.setIfInBounds_toArray, List.set_cons_succ, List.set_cons_zero, Array.getD_eq_getD_getElem?, List.getElem?_toArray, List.getElem?_cons_succ, List.getElem?_cons_zero, Option.getD_some])))
  go_ret
  exact ⟨_, _, rfl, HH.out.own0, HH.out.below⟩
theorem RetBy.of {w w' : World} {l m : List UInt8} {ao : Option Addr} {cap : Nat} (h : l = m) (ho : w'.ownsRow w.heap.size 5 1 (.slice ao l.length cap) l.length (l.map byt)) (hb : Below w.heap.size w w') : RetBy w m (.returned (.slice ao l.length cap)) w' := by
  subst h; exact ⟨_, _, rfl, ho, hb⟩
def CatRel1 (w : World) (ls : List (List UInt8)) (n i : Value) (wr : World) : Prop :=
  ∃ k : Nat, k ≤ ls.length ∧ i = .int .i64 k ∧ n = .int .i64 ((ls.take k).flatten.length : Nat) ∧ Holds w [] [] [] wr
def CatRel2 (w : World) (ls : List (List UInt8)) (v i : Value) (wr : World) : Prop :=
  ∃ (k : Nat) (l : List UInt8) (ao : Option Addr) (cap : Nat), k ≤ ls.length ∧ i = .int .i64 k ∧ l = (ls.take k).flatten ∧ v = .slice ao l.length cap ∧ Holds w [] [] [rowB ao cap l] wr
theorem flat_step {ls : List (List UInt8)} {k : Nat} {p : List UInt8} (h : k < ls.length) (hp : ls.getD k [] = p) : (ls.take (k + 1)).flatten = (ls.take k).flatten ++ p := by
  rw [← List.take_append_getElem h, List.flatten_append]
  rw [List.getD_eq_getElem?_getD, List.getElem?_eq_getElem h, Option.getD_some] at hp
  simp [hp]
theorem flat_le (ls : List (List UInt8)) (k : Nat) : (ls.take k).flatten.length ≤ ls.flatten.length := by
  conv => rhs; rw [← List.take_append_drop k ls, List.flatten_append, List.length_append]
  omega
set_option maxRecDepth 100000 in
set_option maxHeartbeats 2000000 in
theorem concat_any (w : World) (v : Value) (ls : List (List UInt8)) (hl : Pcs w v ls) (hk : ls.length ≤ 1000) (h0 : 0 < ls.flatten.length) (hn : ls.flatten.length ≤ 100000) : Calls Try.prog 66 #[v] w (RetBy w ls.flatten) := by
  obtain ⟨cs, hsl, hcs⟩ := hl
  obtain ⟨ao, cap, rfl, hc⟩ := hsl.shape
  have HS := hid hsl
  have HCS := hid hcs
  clear hsl hcs
  obtain ⟨N, hN⟩ : ∃ N, ls.flatten.length = N := ⟨_, rfl⟩
  rw [hN] at h0 hn
  have HN := hid hN
  clear hN
  have HH := hid (Holds.init w)
  go_enter Try.func66, Try.ntmps66
  go_wp2_with (first
    | ((first
        | ((with_reducible apply wpL_skip); rfl; skip)
        | ((with_reducible apply wpL_nilCheck); rfl; rfl)
        | ((with_reducible apply wpL_load1 (t := 22) kO22 HH.out); rfl; (first | exact .here | exact .there .here | exact .there (.there .here) | exact .there (.there (.there .here)) | exact .there (.there (.there (.there .here))) | exact .there (.there (.there (.there (.there .here)))) | exact .there (.there (.there (.there (.there (.there .here))))) | exact .there (.there (.there (.there (.there (.there (.there .here))))))); rfl; rfl)
        | ((with_reducible apply wpL_len (t := 22) Try.underlying22); rfl; rfl)
        | ((with_reducible apply wpL_len (t := 62) Try.underlying62); rfl; rfl)
        | ((with_reducible apply wpL_move); rfl; rfl)
        | ((with_reducible apply wpL_assign); rfl; rfl)
        | ((with_reducible apply wpL_pick); rfl; rfl; rfl)
        | ((with_reducible apply wpL_not); rfl; rfl)
        | ((with_reducible apply wpL_cmp (b := true)); rfl; rfl; rfl; (first | rfl | assumption | (simp only [cmpB, decide_eq_true_eq, decide_eq_false_iff_not, beq_iff_eq, bne_iff_ne, ne_eq, beq_eq_false_iff_ne, bne_eq_false_iff_eq, gt_iff_lt, ge_iff_le]; omega) | (simp; omega)); rfl)
        | ((with_reducible apply wpL_cmp (b := false)); rfl; rfl; rfl; (first | rfl | assumption | (simp only [cmpB, decide_eq_true_eq, decide_eq_false_iff_not, beq_iff_eq, bne_iff_ne, ne_eq, beq_eq_false_iff_ne, bne_eq_false_iff_eq, gt_iff_lt, ge_iff_le]; omega) | (simp; omega)); rfl)
        | ((with_reducible apply wpL_cmp); rfl; rfl; rfl; rfl; rfl)
        | ((with_reducible apply wpL_arith); rfl; rfl; rfl; (exact IntWalk.i64_in _ (by (try simp only [arithI]); omega)); rfl)); (try simp only [arithI, Act.put, Act.eval, List.setIfInBounds_toArray, List.set_cons_succ, List.set_cons_zero, Array.getD_eq_getD_getElem?, List.getElem?_toArray, List.getElem?_cons_succ, List.getElem?_cons_zero, Option.getD_some])))
  go_loopw [3, 11] (CatRel1 w ls) (fun _ i _ => ls.length - (intOf i).toNat)
  case atStart => exact ⟨0, Nat.zero_le _, rfl, by simp, HH.out⟩
  case round =>
    obtain ⟨k, hk1, rfl, rfl, hr⟩ := hrel
    clear HH
    have HH := hid hr
    clear hr
    obtain ⟨m, hm⟩ : ∃ m, (ls.take k).flatten.length = m := ⟨_, rfl⟩
    have hmN : m ≤ N := by rw [← hm, ← HN.out]; exact flat_le ls k
    have HM := hid hm
    rw [hm]
    clear hm
    by_cases hlt : k < ls.length
    · obtain ⟨u, hu, hbu⟩ := HCS.out k hlt
      obtain ⟨au, cu, rfl, _⟩ := hbu.shape
      obtain ⟨p, hp⟩ : ∃ p, ls.getD k [] = p := ⟨_, rfl⟩
      have hst := flat_step hlt hp
      have hmp : m + p.length ≤ N := by
        have h1 := flat_le ls (k + 1)
        rw [hst, List.length_append, HM.out, HN.out] at h1
        exact h1
      have HST := hid (show (ls.take (k + 1)).flatten.length = m + p.length by rw [hst, List.length_append, HM.out])
      rw [hp] at hu hbu
      have HU := hid hu
      clear hu hbu hp hst
      obtain ⟨ad, cap', e⟩ := HS.out.some (by omega)
      cases e
      go_wp2_with (first
        | ((first
            | ((with_reducible apply wpL_skip); rfl; skip)
            | ((with_reducible apply wpL_idxB (dst := some 13) (j := k) kE62); rfl; rfl; rfl; (exact hlt); rfl)
            | ((with_reducible apply wpL_loadAt (dst := some 14) (v := .slice au p.length cu) kO22); (have hc_ := (HH.out.sl HS.out).cell k (.slice au p.length cu) HU.out; exact hc_); rfl; rfl)
            | ((with_reducible apply wpL_nilCheck); rfl; rfl)
            | ((with_reducible apply wpL_load1 (t := 22) kO22 HH.out); rfl; (first | exact .here | exact .there .here | exact .there (.there .here) | exact .there (.there (.there .here)) | exact .there (.there (.there (.there .here))) | exact .there (.there (.there (.there (.there .here)))) | exact .there (.there (.there (.there (.there (.there .here))))) | exact .there (.there (.there (.there (.there (.there (.there .here))))))); rfl; rfl)
            | ((with_reducible apply wpL_len (t := 22) Try.underlying22); rfl; rfl)
            | ((with_reducible apply wpL_len (t := 62) Try.underlying62); rfl; rfl)
            | ((with_reducible apply wpL_move); rfl; rfl)
            | ((with_reducible apply wpL_assign); rfl; rfl)
            | ((with_reducible apply wpL_pick); rfl; rfl; rfl)
            | ((with_reducible apply wpL_not); rfl; rfl)
            | ((with_reducible apply wpL_cmp (b := true)); rfl; rfl; rfl; (first | rfl | assumption | (simp only [cmpB, decide_eq_true_eq, decide_eq_false_iff_not, beq_iff_eq, bne_iff_ne, ne_eq, beq_eq_false_iff_ne, bne_eq_false_iff_eq, gt_iff_lt, ge_iff_le]; omega) | (simp; omega)); rfl)
            | ((with_reducible apply wpL_cmp (b := false)); rfl; rfl; rfl; (first | rfl | assumption | (simp only [cmpB, decide_eq_true_eq, decide_eq_false_iff_not, beq_iff_eq, bne_iff_ne, ne_eq, beq_eq_false_iff_ne, bne_eq_false_iff_eq, gt_iff_lt, ge_iff_le]; omega) | (simp; omega)); rfl)
            | ((with_reducible apply wpL_cmp); rfl; rfl; rfl; rfl; rfl)
            | ((with_reducible apply wpL_arith); rfl; rfl; rfl; (exact IntWalk.i64_in _ (by (try simp only [arithI]); omega)); rfl)); (try simp only [arithI, Act.put, Act.eval, List.setIfInBounds_toArray, List.set_cons_succ, List.set_cons_zero, Array.getD_eq_getD_getElem?, List.getElem?_toArray, List.getElem?_cons_succ, List.getElem?_cons_zero, Option.getD_some])))
      go_roundw
      case rel => exact ⟨k + 1, by omega, by go_num, by rw [HST.out]; go_num, HH.out⟩
      case measure => simp [intOf]; omega
    · obtain rfl : k = ls.length := by omega
      have hmN2 : m = N := by rw [← HM.out, ← HN.out, List.take_length]
      subst hmN2
      clear HM
      go_wp2_with (first
        | ((first
            | ((with_reducible apply wpL_skip); rfl; skip)
            | (go_at_call 81; (with_reducible refine (growNil_any _ m h0 hn).mono ?_); rintro e_ w2_ ⟨ao2, G2, rfl, hr_, hb_⟩; (have hq_ := HH.out.addRow hb_ hr_); clear HH; have HH := hid hq_; clear hq_ hr_ hb_)
            | ((with_reducible apply wpL_nilCheck); rfl; rfl)
            | ((with_reducible apply wpL_load1 (t := 22) kO22 HH.out); rfl; (first | exact .here | exact .there .here | exact .there (.there .here) | exact .there (.there (.there .here)) | exact .there (.there (.there (.there .here))) | exact .there (.there (.there (.there (.there .here)))) | exact .there (.there (.there (.there (.there (.there .here))))) | exact .there (.there (.there (.there (.there (.there (.there .here))))))); rfl; rfl)
            | ((with_reducible apply wpL_len (t := 22) Try.underlying22); rfl; rfl)
            | ((with_reducible apply wpL_len (t := 62) Try.underlying62); rfl; rfl)
            | ((with_reducible apply wpL_move); rfl; rfl)
            | ((with_reducible apply wpL_assign); rfl; rfl)
            | ((with_reducible apply wpL_pick); rfl; rfl; rfl)
            | ((with_reducible apply wpL_not); rfl; rfl)
            | ((with_reducible apply wpL_cmp (b := true)); rfl; rfl; rfl; (first | rfl | assumption | (simp only [cmpB, decide_eq_true_eq, decide_eq_false_iff_not, beq_iff_eq, bne_iff_ne, ne_eq, beq_eq_false_iff_ne, bne_eq_false_iff_eq, gt_iff_lt, ge_iff_le]; omega) | (simp; omega)); rfl)
            | ((with_reducible apply wpL_cmp (b := false)); rfl; rfl; rfl; (first | rfl | assumption | (simp only [cmpB, decide_eq_true_eq, decide_eq_false_iff_not, beq_iff_eq, bne_iff_ne, ne_eq, beq_eq_false_iff_ne, bne_eq_false_iff_eq, gt_iff_lt, ge_iff_le]; omega) | (simp; omega)); rfl)
            | ((with_reducible apply wpL_cmp); rfl; rfl; rfl; rfl; rfl)
            | ((with_reducible apply wpL_arith); rfl; rfl; rfl; (exact IntWalk.i64_in _ (by (try simp only [arithI]); omega)); rfl)); (try simp only [arithI, Act.put, Act.eval, List.setIfInBounds_toArray, List.set_cons_succ, List.set_cons_zero, Array.getD_eq_getD_getElem?, List.getElem?_toArray, List.getElem?_cons_succ, List.getElem?_cons_zero, Option.getD_some])))
      go_loopw [6, 27] (CatRel2 w ls) (fun _ i _ => ls.length - (intOf i).toNat)
      case atStart => exact ⟨0, [], ao2, G2, Nat.zero_le _, rfl, by simp, rfl, HH.out⟩
      case round =>
        obtain ⟨k, l, ao3, cap3, hk1, rfl, hl, rfl, hr⟩ := hrel
        clear HH
        have HH := hid hr
        have HLK := hid hl
        clear hr hl
        have hlN : l.length ≤ m := by rw [HLK.out, ← HN.out]; exact flat_le ls k
        by_cases hlt : k < ls.length
        · obtain ⟨u, hu, hbu⟩ := HCS.out k hlt
          obtain ⟨au, cu, rfl, _⟩ := hbu.shape
          obtain ⟨p, hp⟩ : ∃ p, ls.getD k [] = p := ⟨_, rfl⟩
          have hst := flat_step hlt hp
          have hmp : l.length + p.length ≤ m := by
            have h1 := flat_le ls (k + 1)
            rw [hst, List.length_append, ← HLK.out, HN.out] at h1
            exact h1
          obtain ⟨l2, hl2⟩ : ∃ l2, l ++ p = l2 := ⟨_, rfl⟩
          have HL2 := hid hl2
          have HST := hid (show l2 = (ls.take (k + 1)).flatten by rw [hst, ← HLK.out, hl2])
          rw [hp] at hu hbu
          have HU := hid hu
          have HBU := hid hbu
          clear hu hbu hp hst hl2
          obtain ⟨ad, cap', e⟩ := HS.out.some (by omega)
          cases e
          go_wp2_with (first
            | ((first
                | ((with_reducible apply wpL_skip); rfl; skip)
                | ((with_reducible apply wpL_idxB (dst := some 29) (j := k) kE62); rfl; rfl; rfl; (exact hlt); rfl)
                | ((with_reducible apply wpL_loadAt (dst := some 30) (v := .slice au p.length cu) kO22); (have hc_ := (HH.out.sl HS.out).cell k (.slice au p.length cu) HU.out; exact hc_); rfl; rfl)
                | ((with_reducible apply wpL_appendBr (dst := some 33) (l := l) (l2 := p) (r := l2) HH.out (HH.out.sl HBU.out) HL2.out); rfl; rfl; (exact (by omega)); rfl; rfl; rfl; (intro ao4 cap4 w_ hq_; clear HH; have HH := hid hq_; clear hq_))
                | ((with_reducible apply wpL_nilCheck); rfl; rfl)
                | ((with_reducible apply wpL_load1 (t := 22) kO22 HH.out); rfl; (first | exact .here | exact .there .here | exact .there (.there .here) | exact .there (.there (.there .here)) | exact .there (.there (.there (.there .here))) | exact .there (.there (.there (.there (.there .here)))) | exact .there (.there (.there (.there (.there (.there .here))))) | exact .there (.there (.there (.there (.there (.there (.there .here))))))); rfl; rfl)
                | ((with_reducible apply wpL_len (t := 22) Try.underlying22); rfl; rfl)
                | ((with_reducible apply wpL_len (t := 62) Try.underlying62); rfl; rfl)
                | ((with_reducible apply wpL_move); rfl; rfl)
                | ((with_reducible apply wpL_assign); rfl; rfl)
                | ((with_reducible apply wpL_pick); rfl; rfl; rfl)
                | ((with_reducible apply wpL_not); rfl; rfl)
                | ((with_reducible apply wpL_cmp (b := true)); rfl; rfl; rfl; (first | rfl | assumption | (simp only [cmpB, decide_eq_true_eq, decide_eq_false_iff_not, beq_iff_eq, bne_iff_ne, ne_eq, beq_eq_false_iff_ne, bne_eq_false_iff_eq, gt_iff_lt, ge_iff_le]; omega) | (simp; omega)); rfl)
                | ((with_reducible apply wpL_cmp (b := false)); rfl; rfl; rfl; (first | rfl | assumption | (simp only [cmpB, decide_eq_true_eq, decide_eq_false_iff_not, beq_iff_eq, bne_iff_ne, ne_eq, beq_eq_false_iff_ne, bne_eq_false_iff_eq, gt_iff_lt, ge_iff_le]; omega) | (simp; omega)); rfl)
                | ((with_reducible apply wpL_cmp); rfl; rfl; rfl; rfl; rfl)
                | ((with_reducible apply wpL_arith); rfl; rfl; rfl; (exact IntWalk.i64_in _ (by (try simp only [arithI]); omega)); rfl)); (try simp only [arithI, Act.put, Act.eval, List.setIfInBounds_toArray, List.set_cons_succ, List.set_cons_zero, Array.getD_eq_getD_getElem?, List.getElem?_toArray, List.getElem?_cons_succ, List.getElem?_cons_zero, Option.getD_some])))
          go_roundw
          case rel => exact ⟨k + 1, l2, _, _, by omega, by go_num, HST.out, rfl, HH.out⟩
          case measure => simp [intOf]; omega
        · have HE := hid (show l = ls.flatten by rw [HLK.out, List.take_of_length_le (by omega)])
          go_wp2_with (first
            | ((first
                | ((with_reducible apply wpL_skip); rfl; skip)
                | ((with_reducible apply wpL_nilCheck); rfl; rfl)
                | ((with_reducible apply wpL_load1 (t := 22) kO22 HH.out); rfl; (first | exact .here | exact .there .here | exact .there (.there .here) | exact .there (.there (.there .here)) | exact .there (.there (.there (.there .here))) | exact .there (.there (.there (.there (.there .here)))) | exact .there (.there (.there (.there (.there (.there .here))))) | exact .there (.there (.there (.there (.there (.there (.there .here))))))); rfl; rfl)
                | ((with_reducible apply wpL_len (t := 22) Try.underlying22); rfl; rfl)
                | ((with_reducible apply wpL_len (t := 62) Try.underlying62); rfl; rfl)
                | ((with_reducible apply wpL_move); rfl; rfl)
                | ((with_reducible apply wpL_assign); rfl; rfl)
                | ((with_reducible apply wpL_pick); rfl; rfl; rfl)
                | ((with_reducible apply wpL_not); rfl; rfl)
                | ((with_reducible apply wpL_cmp (b := true)); rfl; rfl; rfl; (first | rfl | assumption | (simp only [cmpB, decide_eq_true_eq, decide_eq_false_iff_not, beq_iff_eq, bne_iff_ne, ne_eq, beq_eq_false_iff_ne, bne_eq_false_iff_eq, gt_iff_lt, ge_iff_le]; omega) | (simp; omega)); rfl)
                | ((with_reducible apply wpL_cmp (b := false)); rfl; rfl; rfl; (first | rfl | assumption | (simp only [cmpB, decide_eq_true_eq, decide_eq_false_iff_not, beq_iff_eq, bne_iff_ne, ne_eq, beq_eq_false_iff_ne, bne_eq_false_iff_eq, gt_iff_lt, ge_iff_le]; omega) | (simp; omega)); rfl)
                | ((with_reducible apply wpL_cmp); rfl; rfl; rfl; rfl; rfl)
                | ((with_reducible apply wpL_arith); rfl; rfl; rfl; (exact IntWalk.i64_in _ (by (try simp only [arithI]); omega)); rfl)); (try simp only [arithI, Act.put, Act.eval, List.setIfInBounds_toArray, List.set_cons_succ, List.set_cons_zero, Array.getD_eq_getD_getElem?, List.getElem?_toArray, List.getElem?_cons_succ, List.getElem?_cons_zero, Option.getD_some])))
          go_ret
          exact RetBy.of HE.out HH.out.own0 HH.out.below
end Go.Proofs.Ytgkfopodhikckaa

/- IndexByte of a constant, Unhex of ascii. Condition: a text of at most a million bytes. -/
namespace Go.Proofs.Ytgkfopodhikckaa
open Go.RowKit
section
variable {P : Program} {ops : Array Oper} {rest : List Oper} {a : Act} {dst : Option Tmp} {ty : TypeId} {pos : String} {after : Array Edge} {guard : Option (Nat × Bool)} {w w0 : World} {S : List Nat} {bs : List (Nat × Obj)} {rows : List Row} {Q : Exit → Act → World → Prop} {C : World → Prop} {K : Act → Prop}
/-- A function value is called. -/
theorem ex_callV {f : FuncId} (hf : Body P f) {x : Operand} {first cap : Array Value} {xs : Array Operand} {ats : Array TypeId} {args : Array Value} (hx : a.eval x = .func (.func f) first cap) (ha : first ++ (xs.toList.map a.eval).toArray ++ cap = args) (w : World) :
    (execOp a.eval { dst := dst, op := .call { callee := .value x, args := xs, argTypes := ats }, type := ty, pos := pos, after := after, guard := guard }).run P w = .ok (.enter f args) w := by
  obtain ⟨fn, c, h1, h2, h3⟩ := hf
  have h3' : ¬ fn.name = "runtime.NumGoroutine" := by simpa using h3
  have hm : (xs.toList.map a.eval).toArray = xs.map a.eval := by rw [← Array.toList_map, Array.toArray_toList]
  rw [hm] at ha
  simp only [execOp, resolve, hx, Deferred.ofValue, Sem.run_bind, Sem.run_pure, Result.andThen_ok, invoke, ha]
  simp [callFunc, h1, h2, h3']
theorem wpL_callV {f : FuncId} {args first cap : Array Value} {R : Ending → World → Prop} (hf : Body P f) {x : Operand} {xs : Array Operand} {ats : Array TypeId} (hx : a.eval x = .func (.func f) first cap) (ha : first ++ (xs.toList.map a.eval).toArray ++ cap = args)
    (hc : Calls P f args w R)
    (hg : Region.wanted { dst := dst, op := .call { callee := .value x, args := xs, argTypes := ats }, type := ty, pos := pos, after := after, guard := guard } (yielded ops a.tmps) = true)
    (h : ∀ e w', R e w' → ∃ v, e = .returned v ∧ wpList P ops Q rest (a.put dst v) w') : wpList P ops Q ({ dst := dst, op := .call { callee := .value x, args := xs, argTypes := ats }, type := ty, pos := pos, after := after, guard := guard } :: rest) a w :=
  wpList_step fun K hK => by
    rw [if_pos hg]
    unfold Oper.wp
    rw [ex_callV hf hx ha w]
    simp only [Oper.upon]
    exact hc.mono fun e w' hR => by
      obtain ⟨v, rfl, hv⟩ := h e w' hR
      exact hK _ _ hv
end
end Go.Proofs.Ytgkfopodhikckaa

/- Bytes divided, bytes as numbers, strings cut. Over any program. No condition. -/
namespace Go.Proofs.Ytgkfopodhikckaa
open Go.RowKit
section
variable {P : Program} {ops : Array Oper} {rest : List Oper} {a : Act} {dst : Option Tmp} {ty : TypeId} {pos : String} {after : Array Edge} {guard : Option (Nat × Bool)} {w w0 : World} {S : List Nat} {bs : List (Nat × Obj)} {rows : List Row} {Q : Exit → Act → World → Prop} {C : World → Prop} {K : Act → Prop}
end
/-- Bytes of a literal, in a region that draws its order. -/
theorem ex_buildB {P : Program} {ρ : Operand → Value} {dst : Option Tmp} {ty : TypeId} {pos : String} {after : Array Edge} {guard : Option (Nat × Bool)} {t : TypeId} (hE : Elem P t 5 1 1) (l : List UInt8) {parts : Array (Nat × Operand)} {n : Nat}
    (hn : n = l.length) (hp : (parts.toList.map fun p => (p.1, ρ p.2)) = ((l.map byt).zipIdx 0).map fun p => (p.2, p.1)) (hb : n ≤ 1000) (w : World) :
    ∃ v w', (execOp ρ { dst := dst, op := .buildSlice t n parts, type := ty, pos := pos, after := after, guard := guard }).run P w = .ok (.value v) w' ∧ Below w.heap.size w w' ∧
      ∀ base, base ≤ w.heap.size → (∃ ao, v = .slice ao n n) ∧ w'.ownsRow base 5 1 v n (l.map byt) := by
  have hv : ∀ v ∈ l.map byt, v.cells.size = 1 := by
    intro v hv
    obtain ⟨x, _, rfl⟩ := List.mem_map.1 hv
    rfl
  have h := run_buildSlice (P := P) hE (l.map byt) hv (by simp; omega) w
  have hx : (l.map byt).flatMap (·.cells.toList) = l.map byt := by
    clear hp hb hv h hn
    induction l with
    | nil => rfl
    | cons x l ih => simp only [List.map_cons, List.flatMap_cons, ih]; rfl
  rw [hx, List.length_map, ← hn] at h
  refine ⟨_, w.alloc (.cells (l.map byt).toArray 5), ?_, below_alloc w _, fun base hbase => ⟨⟨_, rfl⟩, by simp [hn], .inr ⟨w.heap.size, n, _, rfl, hbase, heap_alloc_new w _, Nat.le_refl _, by unfold maxLen; omega, by simp [hn], by rw [hn, Nat.mul_one]; exact List.take_of_length_le (by simp)⟩⟩⟩
  simp only [execOp, Sem.run_bind]
  rw [show (parts.map fun x => match x with | (i, y) => (i, ρ y)) = (parts.toList.map fun p => (p.1, ρ p.2)).toArray by rw [← Array.toList_map, Array.toArray_toList], hp, h]
  rfl
section
variable {P : Program} {w : World} {ρ : Operand → Value} {dst : Option Tmp} {ty : TypeId} {pos : String} {after : Array Edge} {guard : Option (Nat × Bool)}
end
end Go.Proofs.Ytgkfopodhikckaa

namespace Go.Proofs.Ytgkfopodhikckaa
open Go.RowKit
attribute [local irreducible] wpQuiet wpList
section
variable {P : Program} {w0 w : World} {S : List Nat} {bs bs' : List (Nat × Obj)} {rows : List Row} {ops : Array Oper} {rest : List Oper} {a : Act} {Q : Exit → Act → World → Prop} {ρ : Operand → Value} {dst : Option Tmp} {ty : TypeId} {pos : String} {after : Array Edge} {guard : Option (Nat × Bool)}
theorem ex_i2b {s d : TypeId} {z : TypeDesc} {x : Operand} {k : IntKind} {i : Int} (hs : P.underlying s = some z) (hd : P.underlying d = some (.int .u8)) (hx : ρ x = .int k i) (w : World) :
    (execOp ρ { dst := dst, op := .convert s d x, type := ty, pos := pos, after := after, guard := guard }).run P w = .ok (.value (byt (i2b i))) w := by
  simp only [execOp, hx, Sem.run_bind, run_i2b hs hd, Result.andThen_ok, Sem.run_pure]
theorem ex_sliceArr {t e : TypeId} {n sz : Nat} (ht : P.underlying t = some (.array n e)) (hz : (P.info? e).map (·.size) = some sz) {x : Operand} {g : Nat} (hx : ρ x = .pointer (some ⟨g, 0, none⟩)) (w : World) :
    (execOp ρ { dst := dst, op := .slice t x none none none, type := ty, pos := pos, after := after, guard := guard }).run P w = .ok (.value (.slice (some ⟨g, 0, none⟩) n n)) w := by
  simp [execOp, hx, Instr.sliceAt, Instr.slice, Instr.sliceBounds, Instr.sliceBound, asIntOf, run_underlying ht, run_sizeOf hz, Addr.add, Instr.sureAddr]
theorem wpL_buildP (va vb vc : Value) {parts : Array (Nat × Operand)} (ha : va.cells = #[va]) (hb : vb.cells = #[vb]) (hc : vc.cells = #[vc]) (hp : (parts.toList.map fun p => (p.1, a.eval p.2)) = [(0, va), (1, vb), (2, vc)]) (hH : Holds w0 S bs rows w)
    (hg : Region.wanted { dst := dst, op := .buildSlice 62 3 parts, type := ty, pos := pos, after := after, guard := guard } (yielded ops a.tmps) = true)
    (h : ∀ g w', Holds w0 S bs (⟨.slice (some ⟨g, 0, none⟩) 3 3, 22, 1, 3, [va, vb, vc]⟩ :: rows) w' → wpList Try.prog ops Q rest (a.put dst (.slice (some ⟨g, 0, none⟩) 3 3)) w') :
    wpList Try.prog ops Q ({ dst := dst, op := .buildSlice 62 3 parts, type := ty, pos := pos, after := after, guard := guard } :: rest) a w :=
  wpList_buildSlice kE62 [va, vb, vc] (by intro v hv; simp only [List.mem_cons, List.not_mem_nil, or_false] at hv; rcases hv with rfl | rfl | rfl <;> simp [ha, hb, hc]) (by simp) rfl hp hH (xs := [va, vb, vc]) (by simp [ha, hb, hc]) hg h
end
theorem pcs3 {w w0 : World} {lb : UInt8} {x y : Nd} {g4 g5 g6 gp ca : Nat} {aa : Option Addr} {o : Obj} {rows : List Row} (hx : x.1.length = 16) (hy : y.1.length = 16)
    (h : Holds w0 [] [(g6, o), (g5, objC y.cells 34), (g4, objC x.cells 34)] (⟨.slice (some ⟨gp, 0, none⟩) 3 3, 22, 1, 3, [.slice aa 2 ca, .slice (some ⟨g4, 0, none⟩) 16 16, .slice (some ⟨g5, 0, none⟩) 16 16]⟩ :: ⟨.slice aa 2 ca, 5, 1, 2, [1, lb].map byt⟩ :: rows) w) :
    Pcs w (.slice (some ⟨gp, 0, none⟩) 3 3) [[1, lb], x.1, y.1] := by
  have b0 : Byts w (.slice aa 2 ca) [1, lb] := h.sl1
  have b1 : Byts w (.slice (some ⟨g4, 0, none⟩) 16 16) x.1 := Byts.ofArrAll (x := x) h (.there (.there .here))
  have b2 : Byts w (.slice (some ⟨g5, 0, none⟩) 16 16) y.1 := Byts.ofArrAll (x := y) h (.there .here)
  refine ⟨_, h.sl0, fun i hi => ?_⟩
  match i, hi with
  | 0, _ => exact ⟨_, rfl, b0⟩
  | 1, _ => exact ⟨_, rfl, b1⟩
  | 2, _ => exact ⟨_, rfl, b2⟩
set_option maxRecDepth 100000 in
set_option maxHeartbeats 2000000 in
theorem join_any (w : World) (i : Int) (x y : Nd) : Calls Try.prog 37 #[.int .i64 i, x.val, y.val] w (RetA w (joinN i x y)) := by
  have HH := hid (Holds.init w)
  obtain ⟨lb, hlb⟩ : ∃ lb, i2b i = lb := ⟨_, rfl⟩
  have HLB := hid hlb
  obtain ⟨d, hd⟩ : ∃ d, joinN i x y = d := ⟨_, rfl⟩
  obtain ⟨fl, hfl⟩ : ∃ fl, [[1, lb], x.1, y.1].flatten = fl := ⟨_, rfl⟩
  have HFE := hid hfl
  have HD := hid (show hashN fl = d by rw [← hd, ← hfl, ← hlb]; unfold joinN; simp)
  have HX := hid x.2
  have HY := hid y.2
  have HFL := hid (show fl.length = 34 by rw [← hfl]; simp [x.2, y.2])
  rw [hd]
  clear hd hlb hfl
  go_enter Try.func37, Try.ntmps37
  go_wp2_with (first
    | ((first
        | ((with_reducible apply wpL_skip); rfl; skip)
        | ((with_reducible apply wpL_nilCheck); rfl; rfl)
        | ((with_reducible apply wpL_boxArr (dst := some 4)); rfl; (exact HH.out); rfl; (intro g4_ w_ hq_; (try simp only [List.set_cons_zero, List.set_cons_succ] at hq_); clear HH; have HH := hid hq_; clear hq_))
        | ((with_reducible apply wpL_boxArr (dst := some 5)); rfl; (exact HH.out); rfl; (intro g5_ w_ hq_; (try simp only [List.set_cons_zero, List.set_cons_succ] at hq_); clear HH; have HH := hid hq_; clear hq_))
        | ((with_reducible apply wpL_allocC (dst := some 6) kZ34 HH.out); rfl; (intro g6_ w_ hq_; (try simp only [List.set_cons_zero, List.set_cons_succ] at hq_); clear HH; have HH := hid hq_; clear hq_))
        | ((with_reducible apply wpL_storeArr (t := 34) kS34 HH.out); rfl; rfl; (first | exact .here | exact .there .here | exact .there (.there .here) | exact .there (.there (.there .here)) | exact .there (.there (.there (.there .here))) | exact .there (.there (.there (.there (.there .here)))) | exact .there (.there (.there (.there (.there (.there .here))))) | exact .there (.there (.there (.there (.there (.there (.there .here))))))); (first | rfl | exact Arr.len _ | (simp; done)); rfl; (intro w_ hq_; (try simp only [List.set_cons_zero, List.set_cons_succ] at hq_); clear HH; have HH := hid hq_; clear hq_))
        | ((with_reducible apply wpL_storeC (t := 34)); rfl; rfl; (exact kS34); (exact HH.out); (first | exact .here | exact .there .here | exact .there (.there .here) | exact .there (.there (.there .here)) | exact .there (.there (.there (.there .here))) | exact .there (.there (.there (.there (.there .here)))) | exact .there (.there (.there (.there (.there (.there .here))))) | exact .there (.there (.there (.there (.there (.there (.there .here))))))); (first | rfl | exact Arr.len _ | (simp; done)); (first | rfl | (intro u_ hu_; simp only [List.mem_cons, List.not_mem_nil, or_false] at hu_; rcases hu_ with rfl | hu_; rfl) | exact byt_cell1 _ | exact cells_one _ | exact wrd_one _ | exact flat_cell1 _); (first | rfl | exact Arr.len _ | (simp; done)); rfl; (intro w_ hq_; (try simp only [List.set_cons_zero, List.set_cons_succ] at hq_); clear HH; have HH := hid hq_; clear hq_))
        | ((with_reducible apply wpL_move); rfl; rfl)
        | ((with_reducible apply wpL_assign); rfl; rfl)
        | ((with_reducible apply wpL_pick); rfl; rfl; rfl)
        | ((with_reducible apply wpL_not); rfl; rfl)
        | ((with_reducible apply wpL_cmp (b := true)); rfl; rfl; rfl; (first | rfl | assumption | (simp only [cmpB, decide_eq_true_eq, decide_eq_false_iff_not, beq_iff_eq, bne_iff_ne, ne_eq, beq_eq_false_iff_ne, bne_eq_false_iff_eq, gt_iff_lt, ge_iff_le]; omega) | (simp; omega)); rfl)
        | ((with_reducible apply wpL_cmp (b := false)); rfl; rfl; rfl; (first | rfl | assumption | (simp only [cmpB, decide_eq_true_eq, decide_eq_false_iff_not, beq_iff_eq, bne_iff_ne, ne_eq, beq_eq_false_iff_ne, bne_eq_false_iff_eq, gt_iff_lt, ge_iff_le]; omega) | (simp; omega)); rfl)
        | ((with_reducible apply wpL_cmp); rfl; rfl; rfl; rfl; rfl)
        | ((with_reducible apply wpL_arith); rfl; rfl; rfl; (exact IntWalk.i64_in _ (by (try simp only [arithI]); omega)); rfl)); (try simp only [arithI, Act.put, Act.eval, List.setIfInBounds_toArray, List.set_cons_succ, List.set_cons_zero, Array.getD_eq_getD_getElem?, List.getElem?_toArray, List.getElem?_cons_succ, List.getElem?_cons_zero, Option.getD_some])))
  refine wp_region_tailR 5 [Asr.is (.int .i64 i), Asr.is (byt lb), Asr.full w_.heap.size 5 1 2 ([1, lb].map byt), Asr.is (.slice (some ⟨g4_, 0, none⟩) 16 16), Asr.is (.slice (some ⟨g5_, 0, none⟩) 16 16)] HH.out (by kernel_rfl) (by kernel_rfl) (by kernel_rfl) rfl ?_ ?_
  all_goals simp only [List.take_succ_cons, List.take_zero, List.drop_succ_cons, List.drop_zero]
  · refine eachD_cons ?_ (eachD_cons ?_ (eachD_cons ?_ (eachD_cons ?_ (eachD_cons ?_ (eachD_nil)))))
    · intro a_ w1 hI hF hS
      have e0 : a_.eval (.tmp 0) = (.int .i64 i) := (hF.2.2 0 (notDst_of (by kernel_rfl))).trans rfl
      refine wantD (by rfl) ?_
      exact op_val rfl (ex_move rfl w1) e0
    · intro a_ w1 hI hF hS
      have e7 : a_.eval (.tmp 7) = (.int .i64 i) := hS ⟨0, .data⟩ (by simp) rfl _ rfl
      refine wantD (by rfl) ?_
      exact op_val rfl (ex_i2b Try.underlying3 Try.underlying5 e7 w1) (congrArg byt HLB.out)
    · intro a_ w1 hI hF hS
      have e8 : a_.eval (.tmp 8) = (byt lb) := hS ⟨1, .data⟩ (by simp) rfl _ rfl
      refine wantD (by rfl) ?_
      obtain ⟨v_, w_, hr_, hb_, hA_⟩ := ex_buildB (ρ := a_.eval) kE22 [1, lb] (parts := #[(0, .const (.int .u8 1)), (1, .tmp 8)]) (n := 2) rfl (by show [(0, a_.eval (.const (.int .u8 1))), (1, a_.eval (.tmp 8))] = _; rw [e8]; rfl) (by decide) w1; exact op_new rfl hr_ hb_ (hA_ _ hI.2.size)
    · intro a_ w1 hI hF hS
      have e4 : a_.eval (.tmp 4) = (.pointer (some ⟨g4_, 0, none⟩)) := (hF.2.2 4 (notDst_of (by kernel_rfl))).trans rfl
      refine wantD (by rfl) ?_
      exact op_val rfl (ex_sliceArr Try.underlying34 kS5 e4 w1) rfl
    · intro a_ w1 hI hF hS
      have e5 : a_.eval (.tmp 5) = (.pointer (some ⟨g5_, 0, none⟩)) := (hF.2.2 5 (notDst_of (by kernel_rfl))).trans rfl
      refine wantD (by rfl) ?_
      exact op_val rfl (ex_sliceArr Try.underlying34 kS5 e5 w1) rfl
  intro wq hq_ hb_
  intro v0_ h0_ v1_ h1_ v2_ h2_ v3_ h3_ v4_ h4_
  have q_ : v0_ = (.int .i64 i) := h0_; clear h0_; subst q_
  have q_ : v1_ = (byt lb) := h1_; clear h1_; subst q_
  have K2 := hid h2_; clear h2_
  have q_ : v3_ = (.slice (some ⟨g4_, 0, none⟩) 16 16) := h3_; clear h3_; subst q_
  have q_ : v4_ = (.slice (some ⟨g5_, 0, none⟩) 16 16) := h4_; clear h4_; subst q_
  simp only [endD, putsD, Act.put, List.setIfInBounds_toArray, List.set_cons_succ, List.set_cons_zero]
  have HQ := hid hq_; clear hq_
  have HB_ := hid hb_; clear hb_
  obtain ⟨aa, ca, rfl⟩ := row_shape K2.out.2
  have hq2_ := HH.out.addRow HB_.out K2.out.2
  clear HH HQ K2 HB_
  have HH := hid hq2_
  clear hq2_
  go_wp2_with (first
    | ((first
        | ((with_reducible apply wpL_skip); rfl; skip)
        | ((with_reducible apply wpL_buildP (.slice aa 2 ca) (.slice (some ⟨g4_, 0, none⟩) 16 16) (.slice (some ⟨g5_, 0, none⟩) 16 16) rfl rfl rfl); rfl; (exact HH.out); rfl; (intro gp w_ hq_; clear HH; have HH := hid hq_; clear hq_))
        | (go_at_call 66; (have hcall_ := hid (concat_any _ (.slice (some ⟨gp, 0, none⟩) 3 3) [[1, lb], x.1, y.1] (pcs3 HX.out HY.out HH.out) (by simp) (by rw [HFE.out, HFL.out]; decide) (by rw [HFE.out, HFL.out]; decide))); (with_reducible refine hcall_.out.mono ?_); clear hcall_; rw [HFE.out]; rintro e_ w2_ ⟨ao3, cap3, rfl, hr_, hb_⟩; (have hq_ := HH.out.addRow hb_ hr_); clear HH; have HH := hid hq_; clear hq_ hr_ hb_)
        | (go_at_call 65; (have hcall_ := hid (hash_any _ _ fl HH.out.sl0 (by rw [HFL.out]; decide))); (with_reducible refine hcall_.out.mono ?_); clear hcall_; rw [HD.out]; rintro e_ w2_ ⟨rfl, hb_⟩; (have hq_ := HH.out.grow hb_); clear HH; have HH := hid hq_; clear hq_ hb_)
        | ((with_reducible apply wpL_storeC (t := 34) (vs := d.cells)); rfl; rfl; (exact kS34); (exact HH.out); (exact .here); (exact Arr.len _); (exact cells_one _); (exact Arr.len _); rfl; (intro w_ hq_; clear HH; have HH := hid hq_; clear hq_))
        | ((with_reducible apply wpL_nilCheck); rfl; rfl)
        | ((with_reducible apply wpL_boxArr (dst := some 4)); rfl; (exact HH.out); rfl; (intro g4_ w_ hq_; (try simp only [List.set_cons_zero, List.set_cons_succ] at hq_); clear HH; have HH := hid hq_; clear hq_))
        | ((with_reducible apply wpL_boxArr (dst := some 5)); rfl; (exact HH.out); rfl; (intro g5_ w_ hq_; (try simp only [List.set_cons_zero, List.set_cons_succ] at hq_); clear HH; have HH := hid hq_; clear hq_))
        | ((with_reducible apply wpL_allocC (dst := some 6) kZ34 HH.out); rfl; (intro g6_ w_ hq_; (try simp only [List.set_cons_zero, List.set_cons_succ] at hq_); clear HH; have HH := hid hq_; clear hq_))
        | ((with_reducible apply wpL_storeArr (t := 34) kS34 HH.out); rfl; rfl; (first | exact .here | exact .there .here | exact .there (.there .here) | exact .there (.there (.there .here)) | exact .there (.there (.there (.there .here))) | exact .there (.there (.there (.there (.there .here)))) | exact .there (.there (.there (.there (.there (.there .here))))) | exact .there (.there (.there (.there (.there (.there (.there .here))))))); (first | rfl | exact Arr.len _ | (simp; done)); rfl; (intro w_ hq_; (try simp only [List.set_cons_zero, List.set_cons_succ] at hq_); clear HH; have HH := hid hq_; clear hq_))
        | ((with_reducible apply wpL_storeC (t := 34)); rfl; rfl; (exact kS34); (exact HH.out); (first | exact .here | exact .there .here | exact .there (.there .here) | exact .there (.there (.there .here)) | exact .there (.there (.there (.there .here))) | exact .there (.there (.there (.there (.there .here)))) | exact .there (.there (.there (.there (.there (.there .here))))) | exact .there (.there (.there (.there (.there (.there (.there .here))))))); (first | rfl | exact Arr.len _ | (simp; done)); (first | rfl | (intro u_ hu_; simp only [List.mem_cons, List.not_mem_nil, or_false] at hu_; rcases hu_ with rfl | hu_; rfl) | exact byt_cell1 _ | exact cells_one _ | exact wrd_one _ | exact flat_cell1 _); (first | rfl | exact Arr.len _ | (simp; done)); rfl; (intro w_ hq_; (try simp only [List.set_cons_zero, List.set_cons_succ] at hq_); clear HH; have HH := hid hq_; clear hq_))
        | ((with_reducible apply wpL_move); rfl; rfl)
        | ((with_reducible apply wpL_assign); rfl; rfl)
        | ((with_reducible apply wpL_pick); rfl; rfl; rfl)
        | ((with_reducible apply wpL_not); rfl; rfl)
        | ((with_reducible apply wpL_cmp (b := true)); rfl; rfl; rfl; (first | rfl | assumption | (simp only [cmpB, decide_eq_true_eq, decide_eq_false_iff_not, beq_iff_eq, bne_iff_ne, ne_eq, beq_eq_false_iff_ne, bne_eq_false_iff_eq, gt_iff_lt, ge_iff_le]; omega) | (simp; omega)); rfl)
        | ((with_reducible apply wpL_cmp (b := false)); rfl; rfl; rfl; (first | rfl | assumption | (simp only [cmpB, decide_eq_true_eq, decide_eq_false_iff_not, beq_iff_eq, bne_iff_ne, ne_eq, beq_eq_false_iff_ne, bne_eq_false_iff_eq, gt_iff_lt, ge_iff_le]; omega) | (simp; omega)); rfl)
        | ((with_reducible apply wpL_cmp); rfl; rfl; rfl; rfl; rfl)
        | ((with_reducible apply wpL_arith); rfl; rfl; rfl; (exact IntWalk.i64_in _ (by (try simp only [arithI]); omega)); rfl)); (try simp only [arithI, Act.put, Act.eval, List.setIfInBounds_toArray, List.set_cons_succ, List.set_cons_zero, Array.getD_eq_getD_getElem?, List.getElem?_toArray, List.getElem?_cons_succ, List.getElem?_cons_zero, Option.getD_some])))
  refine bodyPost_ret (res1 rfl (resC kA34 HH.out (by rfl) .here (Arr.len _))) rfl ?_
  exact ⟨rfl, HH.out.below⟩
end Go.Proofs.Ytgkfopodhikckaa

