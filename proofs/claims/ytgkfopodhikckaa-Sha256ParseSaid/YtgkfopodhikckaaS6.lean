/- padded of the reference. Condition: at most a million bytes. -/
import Derived.Test.YtgkfopodhikckaaS5
set_option linter.unusedSimpArgs false
set_option linter.unusedVariables false
namespace Go.Proofs.Ytgkfopodhikckaa
open Go.RowKit
def lenV : Value → Nat | .slice _ n _ => n | _ => 0
theorem byt_cell1 (l : List UInt8) : ∀ u ∈ l.map byt, u.oneCell' = true := by
  intro u hu; obtain ⟨x, _, rfl⟩ := List.mem_map.1 hu; rfl
theorem Byts.of {w : World} {v : Value} {n : Nat} {l : List UInt8} {cs : List Value} (h : Sl w v 1 n cs) (hn : n = l.length) (hc : cs = l.map byt) : Byts w v l := by subst hn hc; exact h
/-- A row of bytes of the call's own. -/
@[reducible] def rowB (ao : Option Addr) (cap : Nat) (l : List UInt8) : Row := ⟨.slice ao l.length cap, 5, 1, l.length, l.map byt⟩
def RetBy (w : World) (l : List UInt8) (e : Ending) (w' : World) : Prop :=
  ∃ ao cap, e = .returned (.slice ao l.length cap) ∧ w'.ownsRow w.heap.size 5 1 (.slice ao l.length cap) l.length (l.map byt) ∧ Below w.heap.size w w'
section
variable {w w0 : World} {S : List Nat} {bs : List (Nat × Obj)} {rows : List Row} {ops : Array Oper} {rest : List Oper} {a : Act} {dst : Option Tmp} {ty : TypeId} {pos : String} {after : Array Edge} {guard : Option (Nat × Bool)} {Q : Exit → Act → World → Prop} {P : Program}
theorem wpL_buildB (l : List UInt8) {parts : Array (Nat × Operand)} {n : Nat} (hn : n = l.length) (hp : (parts.toList.map fun p => (p.1, a.eval p.2)) = ((l.map byt).zipIdx 0).map fun p => (p.2, p.1)) (hb : n ≤ 1000) (hH : Holds w0 S bs rows w)
    (hg : Region.wanted { dst := dst, op := .buildSlice 22 n parts, type := ty, pos := pos, after := after, guard := guard } (yielded ops a.tmps) = true)
    (h : ∀ g w', Holds w0 S bs (rowB (some ⟨g, 0, none⟩) n l :: rows) w' → wpList Try.prog ops Q rest (a.put dst (.slice (some ⟨g, 0, none⟩) n n)) w') :
    wpList Try.prog ops Q ({ dst := dst, op := .buildSlice 22 n parts, type := ty, pos := pos, after := after, guard := guard } :: rest) a w := by
  subst hn
  refine wpList_buildSlice E22 (l.map byt) ?_ ?_ (by simp) hp hH (xs := l.map byt) ?_ hg h
  · intro v hv; obtain ⟨x, _, rfl⟩ := List.mem_map.1 hv; rfl
  · simp; omega
  · clear hp hb hg h
    induction l with
    | nil => rfl
    | cons x l ih => simp only [List.map_cons, List.flatMap_cons, ← ih]; rfl
theorem wpL_appendB {ao ax : Option Addr} {ca cx n m : Nat} {l l2 : List UInt8} (hH : Holds w0 S bs (⟨.slice ao n ca, 5, 1, n, l.map byt⟩ :: rows) w) (hx : Sl w (.slice ax m cx) 1 m (l2.map byt)) (hn : n = l.length) (hm : m = l2.length) (hb : l.length + l2.length ≤ 100000000) {s y : Operand} (hs : a.eval s = .slice ao n ca) (hy : a.eval y = .slice ax m cx)
    (hg : Region.wanted { dst := dst, op := .call { callee := .builtin .append, args := #[s, y], argTypes := #[22, 22] }, type := ty, pos := pos, after := after, guard := guard } (yielded ops a.tmps) = true)
    (h : ∀ ao cap w', Holds w0 S bs (rowB ao cap (l ++ l2) :: rows) w' → wpList Try.prog ops Q rest (a.put dst (.slice ao (l ++ l2).length cap)) w') :
    wpList Try.prog ops Q ({ dst := dst, op := .call { callee := .builtin .append, args := #[s, y], argTypes := #[22, 22] }, type := ty, pos := pos, after := after, guard := guard } :: rest) a w := by
  subst hn hm
  refine wpList_append E22 hH hx (byt_cell1 _) (by omega) hs hy hg fun ao cap w' h' => ?_
  have := h ao cap w' (by simpa only [rowB, List.length_append, List.map_append] using h')
  rwa [List.length_append] at this
/-- A word of 64 bits, shifted. -/
theorem wpL_shrN {t yt : TypeId} {x y : Operand} {p q : Int} {m k : Nat} (hx : a.eval x = .int .u64 p) (hy : a.eval y = .int .i64 q) (hp : p = (m : Int)) (hq : q = (k : Int)) (hk : k < 64)
    (hg : Region.wanted { dst := dst, op := .binOp .shr t x y yt, type := ty, pos := pos, after := after, guard := guard } (yielded ops a.tmps) = true)
    (h : wpList P ops Q rest (a.put dst (.int .u64 ((m / 2 ^ k : Nat) : Int))) w) : wpList P ops Q ({ dst := dst, op := .binOp .shr t x y yt, type := ty, pos := pos, after := after, guard := guard } :: rest) a w := by
  subst hp hq
  refine wpList_ex hg ?_ h
  have he : ∀ u v, eqGuard .shr t x y u v = pure () := fun _ _ => rfl
  have hr : (binOp .shr t (.int .u64 (m : Int)) (.int .i64 (k : Int))).run P w = .ok (.int .u64 ((m / 2 ^ k : Nat) : Int)) w := by
    show (Op.shift .shr .u64 (m : Int) .i64 (k : Int)).run P w = _
    have h0 : ¬ (k : Int) < 0 := by omega
    have h1 : min (k : Int).toNat IntKind.u64.bits = k := by
      have : IntKind.u64.bits = 64 := rfl
      omega
    simp only [Op.shift, h0, if_false, h1, Sem.run_pure]
    congr 2
    rw [Int.fdiv_eq_ediv_of_nonneg _ (by exact_mod_cast Nat.zero_le _)]
    norm_cast
  simp only [execOp, hx, hy, Sem.run_bind, he, Sem.run_pure, Result.andThen_ok, hr]
theorem wpL_toB {s d : TypeId} {z : TypeDesc} {x : Operand} {k : IntKind} {p : Int} {m : Nat} (hs : P.underlying s = some z) (hd : P.underlying d = some (.int .u8)) (hx : a.eval x = .int k p) (hp : p = (m : Int))
    (hg : Region.wanted { dst := dst, op := .convert s d x, type := ty, pos := pos, after := after, guard := guard } (yielded ops a.tmps) = true)
    (h : wpList P ops Q rest (a.put dst (byt (UInt8.ofNat m))) w) : wpList P ops Q ({ dst := dst, op := .convert s d x, type := ty, pos := pos, after := after, guard := guard } :: rest) a w := by
  subst hp
  refine wpList_ex hg ?_ h
  have hr : (convert s d (.int k (m : Int))).run P w = .ok (byt (UInt8.ofNat m)) w := by
    simp only [convert, Sem.run_bind, run_underlying hs, run_underlying hd, Result.andThen_ok, Conv.intToInt, Sem.run_pure]
    unfold byt
    rw [UInt8.toNat_ofNat', IntKind.wrap_u8]
    congr 2
  simp only [execOp, hx, Sem.run_bind, Sem.run_pure, Result.andThen_ok, hr]
end
def padZ (n : Nat) : Nat := (119 - n % 64) % 64
/-- Byte i of the count of bits. -/
def lenByte (n i : Nat) : UInt8 := UInt8.ofNat (n * 8 / 2 ^ (8 * i))
def lenBs (n j : Nat) : List UInt8 := (List.range j).map fun i => lenByte n (7 - i)
def padL (n : Nat) : List UInt8 := 128 :: List.replicate (padZ n) 0 ++ lenBs n 8
theorem lenBs_succ (n j : Nat) : lenBs n (j + 1) = lenBs n j ++ [lenByte n (7 - j)] := by simp [lenBs, List.range_succ]
def PadRel1 (w : World) (l : List UInt8) (v : Value) (wr : World) : Prop :=
  ∃ k : Nat, k ≤ padZ l.length ∧ ∃ ao cap, v = .slice ao (l ++ 128 :: List.replicate k 0).length cap ∧ Holds w [] [] [rowB ao cap (l ++ 128 :: List.replicate k 0)] wr
def PadRel2 (w : World) (l : List UInt8) (n : Nat) (v i : Value) (wr : World) : Prop :=
  ∃ j : Nat, j ≤ 8 ∧ i = .int .i64 (7 - j) ∧ ∃ ao cap, v = .slice ao (l ++ lenBs n j).length cap ∧ Holds w [] [] [rowB ao cap (l ++ lenBs n j)] wr
set_option maxRecDepth 100000 in
set_option maxHeartbeats 2000000 in
theorem padded_any (w : World) (v : Value) (l : List UInt8) (hl : Byts w v l) (hn : l.length ≤ 1000000) : Calls Try.prog 58 #[v] w (RetBy w (l ++ padL l.length)) := by
  obtain ⟨ao, cap, rfl, _⟩ := hl.shape
  have HL := hid hl
  clear hl
  have HH := hid (Holds.init w)
  go_enter Try.func58, Try.ntmps58
  go_wp2_with (first
    | ((first
        | ((with_reducible apply wpL_skip); rfl; skip)
        | ((with_reducible apply wpL_buildB [] (dst := some 6)); rfl; rfl; (exact (by omega)); (exact HH.out); rfl; (intro g_ w_ hq_; clear HH; have HH := hid hq_; clear hq_))
        | ((with_reducible apply wpL_appendB (dst := some 8) (l := []) (l2 := l) HH.out (HH.out.sl HL.out)); rfl; rfl; (exact (by simp; omega)); rfl; rfl; rfl; (intro ao1 cap1 w_ hq_; clear HH; have HH := hid hq_; clear hq_))
        | ((with_reducible apply wpL_buildB [128] (dst := some 9)); rfl; rfl; (exact (by omega)); (exact HH.out); rfl; (intro g_ w_ hq_; clear HH; have HH := hid hq_; clear hq_))
        | ((with_reducible apply wpL_appendB (dst := some 10) (l := l) (l2 := [128]) HH.out.swap HH.out.sl0); rfl; rfl; (exact (by simp; omega)); rfl; rfl; rfl; (intro ao1 cap1 w_ hq_; clear HH; have HH := hid hq_.dropSnd; clear hq_))
        | ((with_reducible apply wpL_move); rfl; rfl)
        | ((with_reducible apply wpL_assign); rfl; rfl)
        | ((with_reducible apply wpL_pick); rfl; rfl; rfl)
        | ((with_reducible apply wpL_not); rfl; rfl)
        | ((with_reducible apply wpL_cmp (b := true)); rfl; rfl; rfl; (first | rfl | assumption | (simp only [cmpB, decide_eq_true_eq, decide_eq_false_iff_not, beq_iff_eq, bne_iff_ne, ne_eq, beq_eq_false_iff_ne, bne_eq_false_iff_eq, gt_iff_lt, ge_iff_le]; omega) | (simp; omega)); rfl)
        | ((with_reducible apply wpL_cmp (b := false)); rfl; rfl; rfl; (first | rfl | assumption | (simp only [cmpB, decide_eq_true_eq, decide_eq_false_iff_not, beq_iff_eq, bne_iff_ne, ne_eq, beq_eq_false_iff_ne, bne_eq_false_iff_eq, gt_iff_lt, ge_iff_le]; omega) | (simp; omega)); rfl)
        | ((with_reducible apply wpL_cmp); rfl; rfl; rfl; rfl; rfl)
        | ((with_reducible apply wpL_arith); rfl; rfl; rfl; (exact IntWalk.i64_in _ (by (try simp only [arithI]); omega)); rfl)); (try simp only [arithI, Act.put, Act.eval, List.setIfInBounds_toArray, List.set_cons_succ, List.set_cons_zero, Array.getD_eq_getD_getElem?, List.getElem?_toArray, List.getElem?_cons_succ, List.getElem?_cons_zero, Option.getD_some])))
  go_loopw [3] (PadRel1 w l) (fun v _ => l.length + 1 + padZ l.length - lenV v)
  case atStart => exact ⟨0, Nat.zero_le _, _, _, rfl, HH.out⟩
  case round =>
    obtain ⟨k, hk, ao1, cap1, rfl, hr⟩ := hrel
    clear HH
    have HH := hid hr
    clear hr
    have hlen : (l ++ 128 :: List.replicate k 0).length = l.length + 1 + k := by simp; omega
    have hz : padZ l.length = (119 - l.length % 64) % 64 := rfl
    by_cases hlt : k < padZ l.length
    · have happ : (l ++ 128 :: List.replicate k 0) ++ [0] = l ++ 128 :: List.replicate (k + 1) 0 := by rw [List.append_assoc, List.cons_append, ← List.replicate_succ']
      have HA := hid happ
      clear happ
      go_wp2_with (first
        | ((first
            | ((with_reducible apply wpL_skip); rfl; skip)
            | ((with_reducible apply wpL_len Try.underlying22); rfl; rfl)
            | ((with_reducible apply wpL_remN (m := (l ++ 128 :: List.replicate k 0).length) (n := 64)); rfl; rfl; rfl; rfl; (exact (by omega)); (exact (by omega)); (exact (by omega)); rfl)
            | ((with_reducible apply wpL_buildB [0] (dst := some 16)); rfl; rfl; (exact (by omega)); (exact HH.out); rfl; (intro g_ w_ hq_; clear HH; have HH := hid hq_; clear hq_))
            | ((with_reducible apply wpL_appendB (dst := some 17) (l := l ++ 128 :: List.replicate k 0) (l2 := [0]) HH.out.swap HH.out.sl0); rfl; rfl; (exact (by simp; omega)); rfl; rfl; rfl; (rw [HA.out]; intro ao1 cap1 w_ hq_; clear HH; have HH := hid hq_.dropSnd; clear hq_))
            | ((with_reducible apply wpL_move); rfl; rfl)
            | ((with_reducible apply wpL_assign); rfl; rfl)
            | ((with_reducible apply wpL_pick); rfl; rfl; rfl)
            | ((with_reducible apply wpL_not); rfl; rfl)
            | ((with_reducible apply wpL_cmp (b := true)); rfl; rfl; rfl; (first | rfl | assumption | (simp only [cmpB, decide_eq_true_eq, decide_eq_false_iff_not, beq_iff_eq, bne_iff_ne, ne_eq, beq_eq_false_iff_ne, bne_eq_false_iff_eq, gt_iff_lt, ge_iff_le]; omega) | (simp; omega)); rfl)
            | ((with_reducible apply wpL_cmp (b := false)); rfl; rfl; rfl; (first | rfl | assumption | (simp only [cmpB, decide_eq_true_eq, decide_eq_false_iff_not, beq_iff_eq, bne_iff_ne, ne_eq, beq_eq_false_iff_ne, bne_eq_false_iff_eq, gt_iff_lt, ge_iff_le]; omega) | (simp; omega)); rfl)
            | ((with_reducible apply wpL_cmp); rfl; rfl; rfl; rfl; rfl)
            | ((with_reducible apply wpL_arith); rfl; rfl; rfl; (exact IntWalk.i64_in _ (by (try simp only [arithI]); omega)); rfl)); (try simp only [arithI, Act.put, Act.eval, List.setIfInBounds_toArray, List.set_cons_succ, List.set_cons_zero, Array.getD_eq_getD_getElem?, List.getElem?_toArray, List.getElem?_cons_succ, List.getElem?_cons_zero, Option.getD_some])))
      go_roundw
      case rel => exact ⟨k + 1, by omega, _, _, rfl, HH.out⟩
      case measure => simp [lenV]; omega
    · have hkz : k = padZ l.length := by omega
      have HKZ := hid hkz
      clear hkz
      go_wp2_with (first
        | ((first
            | ((with_reducible apply wpL_skip); rfl; skip)
            | ((with_reducible apply wpL_len Try.underlying22); rfl; rfl)
            | ((with_reducible apply wpL_remN (m := (l ++ 128 :: List.replicate k 0).length) (n := 64)); rfl; rfl; rfl; rfl; (exact (by omega)); (exact (by omega)); (exact (by omega)); rfl)
            | ((with_reducible apply wpL_move); rfl; rfl)
            | ((with_reducible apply wpL_assign); rfl; rfl)
            | ((with_reducible apply wpL_pick); rfl; rfl; rfl)
            | ((with_reducible apply wpL_not); rfl; rfl)
            | ((with_reducible apply wpL_cmp (b := true)); rfl; rfl; rfl; (first | rfl | assumption | (simp only [cmpB, decide_eq_true_eq, decide_eq_false_iff_not, beq_iff_eq, bne_iff_ne, ne_eq, beq_eq_false_iff_ne, bne_eq_false_iff_eq, gt_iff_lt, ge_iff_le]; omega) | (simp; omega)); rfl)
            | ((with_reducible apply wpL_cmp (b := false)); rfl; rfl; rfl; (first | rfl | assumption | (simp only [cmpB, decide_eq_true_eq, decide_eq_false_iff_not, beq_iff_eq, bne_iff_ne, ne_eq, beq_eq_false_iff_ne, bne_eq_false_iff_eq, gt_iff_lt, ge_iff_le]; omega) | (simp; omega)); rfl)
            | ((with_reducible apply wpL_cmp); rfl; rfl; rfl; rfl; rfl)
            | ((with_reducible apply wpL_arith); rfl; rfl; rfl; (exact IntWalk.i64_in _ (by (try simp only [arithI]); omega)); rfl)); (try simp only [arithI, Act.put, Act.eval, List.setIfInBounds_toArray, List.set_cons_succ, List.set_cons_zero, Array.getD_eq_getD_getElem?, List.getElem?_toArray, List.getElem?_cons_succ, List.getElem?_cons_zero, Option.getD_some])))
      go_loopw [3, 5] (PadRel2 w (l ++ 128 :: List.replicate k 0) l.length) (fun _ i _ => (intOf i + 1).toNat)
      case atStart => exact ⟨0, Nat.zero_le _, rfl, ao1, cap1, by simp [lenBs], by simpa [lenBs] using HH.out⟩
      case round =>
        obtain ⟨j, hj, rfl, ao2, cap2, rfl, hr⟩ := hrel
        clear HH
        have HH := hid hr
        clear hr
        have hll : ((l ++ 128 :: List.replicate k 0) ++ lenBs l.length j).length = l.length + 1 + k + j := by rw [List.length_append, hlen]; simp [lenBs]
        by_cases hj8 : j < 8
        · have HA := hid (show ((l ++ 128 :: List.replicate k 0) ++ lenBs l.length j) ++ [lenByte l.length (7 - j)] = (l ++ 128 :: List.replicate k 0) ++ lenBs l.length (j + 1) by rw [lenBs_succ, List.append_assoc])
          have hk63 : k < 64 := by omega
          go_wp2_with (first
            | ((first
                | ((with_reducible apply wpL_skip); rfl; skip)
                | ((with_reducible apply wpL_shrN (m := l.length * 8) (k := 8 * (7 - j))); rfl; rfl; (exact (by omega)); (exact (by omega)); (exact (by omega)); rfl)
                | ((with_reducible apply wpL_toB Try.underlying119 Try.underlying5); rfl; rfl; rfl)
                | ((with_reducible apply wpL_buildB [lenByte l.length (7 - j)] (dst := some 32)); rfl; rfl; (exact (by omega)); (exact HH.out); rfl; (intro g_ w_ hq_; clear HH; have HH := hid hq_; clear hq_))
                | ((with_reducible apply wpL_appendB (dst := some 33) (l := (l ++ 128 :: List.replicate k 0) ++ lenBs l.length j) (l2 := [lenByte l.length (7 - j)]) HH.out.swap HH.out.sl0); rfl; rfl; (rw [hll]; exact (by simp; omega)); rfl; rfl; rfl; (rw [HA.out]; intro ao1 cap1 w_ hq_; clear HH; have HH := hid hq_.dropSnd; clear hq_))
                | ((with_reducible apply wpL_move); rfl; rfl)
                | ((with_reducible apply wpL_assign); rfl; rfl)
                | ((with_reducible apply wpL_pick); rfl; rfl; rfl)
                | ((with_reducible apply wpL_not); rfl; rfl)
                | ((with_reducible apply wpL_cmp (b := true)); rfl; rfl; rfl; (first | rfl | assumption | (simp only [cmpB, decide_eq_true_eq, decide_eq_false_iff_not, beq_iff_eq, bne_iff_ne, ne_eq, beq_eq_false_iff_ne, bne_eq_false_iff_eq, gt_iff_lt, ge_iff_le]; omega) | (simp; omega)); rfl)
                | ((with_reducible apply wpL_cmp (b := false)); rfl; rfl; rfl; (first | rfl | assumption | (simp only [cmpB, decide_eq_true_eq, decide_eq_false_iff_not, beq_iff_eq, bne_iff_ne, ne_eq, beq_eq_false_iff_ne, bne_eq_false_iff_eq, gt_iff_lt, ge_iff_le]; omega) | (simp; omega)); rfl)
                | ((with_reducible apply wpL_cmp); rfl; rfl; rfl; rfl; rfl)
                | ((with_reducible apply wpL_arith); rfl; rfl; rfl; (exact IntWalk.i64_in _ (by (try simp only [arithI]); omega)); rfl)); (try simp only [arithI, Act.put, Act.eval, List.setIfInBounds_toArray, List.set_cons_succ, List.set_cons_zero, Array.getD_eq_getD_getElem?, List.getElem?_toArray, List.getElem?_cons_succ, List.getElem?_cons_zero, Option.getD_some])))
          go_roundw
          case rel => exact ⟨j + 1, by omega, by go_num, _, _, rfl, HH.out⟩
          case measure => simp [intOf]; omega
        · have hj88 : j = 8 := by omega
          have HJ := hid hj88
          clear hj88
          go_wp2_with (first
            | ((first
                | ((with_reducible apply wpL_skip); rfl; skip)
                | ((with_reducible apply wpL_move); rfl; rfl)
                | ((with_reducible apply wpL_assign); rfl; rfl)
                | ((with_reducible apply wpL_pick); rfl; rfl; rfl)
                | ((with_reducible apply wpL_not); rfl; rfl)
                | ((with_reducible apply wpL_cmp (b := true)); rfl; rfl; rfl; (first | rfl | assumption | (simp only [cmpB, decide_eq_true_eq, decide_eq_false_iff_not, beq_iff_eq, bne_iff_ne, ne_eq, beq_eq_false_iff_ne, bne_eq_false_iff_eq, gt_iff_lt, ge_iff_le]; omega) | (simp; omega)); rfl)
                | ((with_reducible apply wpL_cmp (b := false)); rfl; rfl; rfl; (first | rfl | assumption | (simp only [cmpB, decide_eq_true_eq, decide_eq_false_iff_not, beq_iff_eq, bne_iff_ne, ne_eq, beq_eq_false_iff_ne, bne_eq_false_iff_eq, gt_iff_lt, ge_iff_le]; omega) | (simp; omega)); rfl)
                | ((with_reducible apply wpL_cmp); rfl; rfl; rfl; rfl; rfl)
                | ((with_reducible apply wpL_arith); rfl; rfl; rfl; (exact IntWalk.i64_in _ (by (try simp only [arithI]); omega)); rfl)); (try simp only [arithI, Act.put, Act.eval, List.setIfInBounds_toArray, List.set_cons_succ, List.set_cons_zero, Array.getD_eq_getD_getElem?, List.getElem?_toArray, List.getElem?_cons_succ, List.getElem?_cons_zero, Option.getD_some])))
          go_ret
          have e : (l ++ 128 :: List.replicate k 0) ++ lenBs l.length j = l ++ padL l.length := by
            rw [HJ.out, HKZ.out, List.append_assoc]; rfl
          have hq := HH.out
          simp only [e] at hq ⊢
          exact ⟨_, _, rfl, hq.own0, hq.below⟩
end Go.Proofs.Ytgkfopodhikckaa
