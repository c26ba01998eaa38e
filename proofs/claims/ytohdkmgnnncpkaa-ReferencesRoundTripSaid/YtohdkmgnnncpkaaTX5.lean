/- The Builder's Grow; Join with a space. Condition: texts of at most a thousand bytes. -/
import Derived.Test.YtohdkmgnnncpkaaTX4
import Derived.Deep.Slices
set_option linter.unusedSimpArgs false
set_option linter.unusedVariables false
namespace Go.Proofs.Ytohdkmgnnncpkaa
open Go.RowKit
set_option maxRecDepth 100000 in
set_option maxHeartbeats 2000000 in
theorem Grow_own (w0 w : World) (S : List Nat) (b n : Nat) (bs : List (Nat × Obj)) (rows : List Row) (hn : n ≤ 100000) (h0 : 1 ≤ n)
    (h : Holds w0 S ((b, objC [.pointer none, .slice none 0 0] 87) :: bs) rows w) :
    Calls Try.prog 50 #[selfP b, .int .i64 n] w (fun e w' => e = .returned (.tuple #[]) ∧ ∃ ao2 cap2, Holds w0 S ((b, objC [selfP b, .slice ao2 0 cap2] 87) :: bs) (rowB ao2 cap2 [] :: rows) w') := by
  have HH := hid h
  clear h
  unfold selfP
  go_enter Try.func50, Try.ntmps50
  go_wp2_with (first
    | ((first
        | ((with_reducible apply wpL_skip); rfl; skip)
        | (go_at_call 56; (first | ((have hcall_ := hid (copyCheck_own _ _ _ _ _ _ _ _ (.inl rfl) HH.out)); (with_reducible refine hcall_.out.mono ?_); clear hcall_) | (with_reducible refine (copyCheck_own _ _ _ _ _ _ _ _ (.inl rfl) HH.out).mono ?_)); rintro e_ w2_ ⟨rfl, hb_⟩; (have hq_ := hb_); clear HH; have HH := hid hq_; clear hq_)
        | ((with_reducible apply wpL_nilCheck); rfl; rfl)
        | ((with_reducible apply wpL_fieldAddr); (first | exact kF87_1); rfl; rfl)
        | ((with_reducible apply wpL_load1 (t := 81) kO81 HH.out); rfl; (first | exact .here | exact .there .here | exact .there (.there .here) | exact .there (.there (.there .here)) | exact .there (.there (.there (.there .here))) | exact .there (.there (.there (.there (.there .here)))) | exact .there (.there (.there (.there (.there (.there .here))))) | exact .there (.there (.there (.there (.there (.there (.there .here))))))); rfl; rfl)
        | ((with_reducible apply wpL_len (t := 81) Try.underlying81); rfl; rfl)
        | ((with_reducible apply wpL_move); rfl; rfl)
        | ((with_reducible apply wpL_assign); rfl; rfl)
        | ((with_reducible apply wpL_pick); rfl; rfl; rfl)
        | ((with_reducible apply wpL_not); rfl; rfl)
        | ((with_reducible apply wpL_cmp (b := true)); rfl; rfl; rfl; (first | rfl | assumption | (simp only [cmpB, decide_eq_true_eq, decide_eq_false_iff_not, beq_iff_eq, bne_iff_ne, ne_eq, beq_eq_false_iff_ne, bne_eq_false_iff_eq, gt_iff_lt, ge_iff_le]; omega) | (simp; omega)); rfl)
        | ((with_reducible apply wpL_cmp (b := false)); rfl; rfl; rfl; (first | rfl | assumption | (simp only [cmpB, decide_eq_true_eq, decide_eq_false_iff_not, beq_iff_eq, bne_iff_ne, ne_eq, beq_eq_false_iff_ne, bne_eq_false_iff_eq, gt_iff_lt, ge_iff_le]; omega) | (simp; omega)); rfl)
        | ((with_reducible apply wpL_cmp); rfl; rfl; rfl; rfl; rfl)
        | ((with_reducible apply wpL_arith); rfl; rfl; rfl; (exact IntWalk.i64_in _ (by (try simp only [arithI]); omega)); rfl)); (try simp only [arithI, Act.put, Act.eval, List.setIfInBounds_toArray, List.set_cons_succ, List.set_cons_zero, Array.getD_eq_getD_getElem?, List.getElem?_toArray, List.getElem?_cons_succ, List.getElem?_cons_zero, Option.getD_some])))
  refine wp_region_holds (by kernel_rfl) (by kernel_rfl) HH.out ?_
  repeat ((first
    | ((with_reducible apply wpQ_skip); rfl; skip)
    | ((with_reducible apply wpQ_cap (c := 0) Try.underlying81); rfl; rfl)
    | ((with_reducible apply wpQ_arith (r := 0)); rfl; rfl; rfl; (exact (by decide)); rfl)
    | ((with_reducible apply wpQ_nilCheck); rfl; rfl)
    | ((with_reducible apply wpQ_fieldAddr); (first | exact kF87_1); rfl; rfl)
    | ((with_reducible apply wpQ_load1 (t := 81) kO81); rfl; (first | exact .here | exact .there .here | exact .there (.there .here) | exact .there (.there (.there .here)) | exact .there (.there (.there (.there .here))) | exact .there (.there (.there (.there (.there .here)))) | exact .there (.there (.there (.there (.there (.there .here))))) | exact .there (.there (.there (.there (.there (.there (.there .here))))))); rfl; rfl)
    | ((with_reducible apply wpQ_len (t := 81) Try.underlying81); rfl; rfl)
    | ((with_reducible apply wpQ_move); rfl; rfl)
    | ((with_reducible apply wpQ_assign); rfl; rfl)
    | ((with_reducible apply wpQ_pick); rfl; rfl; rfl)
    | ((with_reducible apply wpQ_not); rfl; rfl)
    | ((with_reducible apply wpQ_cmp (b := true)); rfl; rfl; rfl; (first | rfl | assumption | (simp only [cmpB, decide_eq_true_eq, decide_eq_false_iff_not, beq_iff_eq, bne_iff_ne, ne_eq, beq_eq_false_iff_ne, bne_eq_false_iff_eq, gt_iff_lt, ge_iff_le]; omega) | (simp; omega)); rfl)
    | ((with_reducible apply wpQ_cmp (b := false)); rfl; rfl; rfl; (first | rfl | assumption | (simp only [cmpB, decide_eq_true_eq, decide_eq_false_iff_not, beq_iff_eq, bne_iff_ne, ne_eq, beq_eq_false_iff_ne, bne_eq_false_iff_eq, gt_iff_lt, ge_iff_le]; omega) | (simp; omega)); rfl)
    | ((with_reducible apply wpQ_cmp); rfl; rfl; rfl; rfl; rfl)
    | ((with_reducible apply wpQ_arith); rfl; rfl; rfl; (exact IntWalk.i64_in _ (by (try simp only [arithI]); omega)); rfl)); (try simp only [if_true, if_false, Bool.false_eq_true, arithI, Act.put, Act.eval, List.setIfInBounds_toArray, List.set_cons_succ, List.set_cons_zero, Array.getD_eq_getD_getElem?, List.getElem?_toArray, List.getElem?_cons_succ, List.getElem?_cons_zero, Option.getD_some]))
  refine wpQuiet_nil ?_
  intro wq hq_
  have HQ := hid hq_
  clear hq_
  clear HH
  have HH := HQ
  clear HQ
  go_wp2_with (first
    | ((first
        | ((with_reducible apply wpL_skip); rfl; skip)
        | (go_at_call 57; (first | ((have hcall_ := hid (grow_own _ _ _ _ _ _ _ _ hn HH.out)); (with_reducible refine hcall_.out.mono ?_); clear hcall_) | (with_reducible refine (grow_own _ _ _ _ _ _ _ _ hn HH.out).mono ?_)); rintro e_ w2_ ⟨rfl, ao2, cap2, hb_⟩; (have hq_ := hb_); clear HH; have HH := hid hq_; clear hq_)
        | ((with_reducible apply wpL_nilCheck); rfl; rfl)
        | ((with_reducible apply wpL_fieldAddr); (first | exact kF87_1); rfl; rfl)
        | ((with_reducible apply wpL_load1 (t := 81) kO81 HH.out); rfl; (first | exact .here | exact .there .here | exact .there (.there .here) | exact .there (.there (.there .here)) | exact .there (.there (.there (.there .here))) | exact .there (.there (.there (.there (.there .here)))) | exact .there (.there (.there (.there (.there (.there .here))))) | exact .there (.there (.there (.there (.there (.there (.there .here))))))); rfl; rfl)
        | ((with_reducible apply wpL_len (t := 81) Try.underlying81); rfl; rfl)
        | ((with_reducible apply wpL_move); rfl; rfl)
        | ((with_reducible apply wpL_assign); rfl; rfl)
        | ((with_reducible apply wpL_pick); rfl; rfl; rfl)
        | ((with_reducible apply wpL_not); rfl; rfl)
        | ((with_reducible apply wpL_cmp (b := true)); rfl; rfl; rfl; (first | rfl | assumption | (simp only [cmpB, decide_eq_true_eq, decide_eq_false_iff_not, beq_iff_eq, bne_iff_ne, ne_eq, beq_eq_false_iff_ne, bne_eq_false_iff_eq, gt_iff_lt, ge_iff_le]; omega) | (simp; omega)); rfl)
        | ((with_reducible apply wpL_cmp (b := false)); rfl; rfl; rfl; (first | rfl | assumption | (simp only [cmpB, decide_eq_true_eq, decide_eq_false_iff_not, beq_iff_eq, bne_iff_ne, ne_eq, beq_eq_false_iff_ne, bne_eq_false_iff_eq, gt_iff_lt, ge_iff_le]; omega) | (simp; omega)); rfl)
        | ((with_reducible apply wpL_cmp); rfl; rfl; rfl; rfl; rfl)
        | ((with_reducible apply wpL_arith); rfl; rfl; rfl; (exact IntWalk.i64_in _ (by (try simp only [arithI]); omega)); rfl)); (try simp only [arithI, Act.put, Act.eval, List.setIfInBounds_toArray, List.set_cons_succ, List.set_cons_zero, Array.getD_eq_getD_getElem?, List.getElem?_toArray, List.getElem?_cons_succ, List.getElem?_cons_zero, Option.getD_some])))
  refine bodyPost_end (results_none rfl _ _ _) rfl ⟨rfl, _, _, HH.out⟩
/-- A slice of texts that is read. -/
def Strs (w : World) (v : Value) (ls : List (List UInt8)) : Prop := Sl w v 1 ls.length (ls.map str)
theorem str_cell {w : World} {a : Addr} {cap : Nat} {ls : List (List UInt8)} (h : Strs w (.slice (some a) ls.length cap) ls) {k : Nat} (hk : k < ls.length) : w.cell? (a.add k) = some (str ls[k]) := by
  have := Sl.cell h k (str ls[k]) (by simp [hk])
  exact this
theorem joinS_step {sep : List UInt8} {l : List (List UInt8)} {k : Nat} (h : k < l.length) (h0 : 0 < k) : joinS sep (l.take k) ++ sep ++ l[k] = joinS sep (l.take (k + 1)) := by
  rw [← List.take_append_getElem h, joinS_snoc _ _ _ (by
    intro e
    have := congrArg List.length e
    simp only [List.length_take, List.length_nil] at this
    omega)]
theorem joinS_len {sep : List UInt8} (hs : sep.length ≤ 1) : ∀ l : List (List UInt8), (∀ x ∈ l, x.length ≤ 100) → (joinS sep l).length ≤ 101 * l.length
  | [], _ => by simp [joinS]
  | [x], h => by have := h x (by simp); simp [joinS]; omega
  | x :: y :: r, h => by
    have h1 := joinS_len hs (y :: r) fun z hz => h z (List.mem_cons_of_mem _ hz)
    have h2 := h x (by simp)
    simp only [joinS, List.length_append, List.length_cons] at h1 ⊢
    omega
def JRel1 (w : World) (ls : List (List UInt8)) (n i : Value) (wr : World) : Prop :=
  ∃ k m : Nat, k ≤ ls.length ∧ i = .int .i64 k ∧ n = .int .i64 m ∧ 1 ≤ m ∧ m ≤ ls.length + 100 * k ∧ Holds w [] [] [] wr
def JRel2 (w : World) (ls : List (List UInt8)) (b : Nat) (i : Value) (wr : World) : Prop :=
  ∃ k : Nat, k + 1 ≤ ls.length ∧ i = .int .i64 k ∧ ∃ ao cap, Holds w [] [(b, objC [selfP b, .slice ao (joinS [32] (ls.take (k + 1))).length cap] 87)] [rowB ao cap (joinS [32] (ls.take (k + 1)))] wr
section
variable {P : Program} {ops : Array Oper} {rest : List Oper} {a : Act} {dst : Option Tmp} {ty : TypeId} {pos : String} {after : Array Edge} {guard : Option (Nat × Bool)} {w : World} {Q : Exit → Act → World → Prop}
/-- x[k:], something being left. -/
theorem wpL_sliceFrom {t e : TypeId} {sz bytes : Nat} (hE : Elem P t e sz bytes) {x lo : Operand} {ad : Addr} {n c j : Nat} {q : Int} {k : IntKind} (hx : a.eval x = .slice (some ad) n c) (hi : a.eval lo = .int k q) (hq : q = (j : Int)) (hj : j ≤ n) (hc : j < c)
    (hg : Region.wanted { dst := dst, op := .slice t x (some lo) none none, type := ty, pos := pos, after := after, guard := guard } (yielded ops a.tmps) = true)
    (h : wpList P ops Q rest (a.put dst (.slice (some (ad.add (j * sz))) (n - j) (c - j))) w) : wpList P ops Q ({ dst := dst, op := .slice t x (some lo) none none, type := ty, pos := pos, after := after, guard := guard } :: rest) a w := by
  have := ex_slice_from (P := P) (ρ := a.eval) (dst := dst) (ty := ty) (pos := pos) (after := after) (guard := guard) hE hx hi hq hj w
  rw [if_neg (by omega)] at this
  exact wpList_ex hg this h
theorem wpL_lenStrN {t : TypeId} {l : List UInt8} {n : Nat} (ht : P.underlying t = some .string) {x : Operand} (hx : a.eval x = str l) (hn : l.length = n)
    (hg : Region.wanted { dst := dst, op := .call { callee := .builtin .len, args := #[x], argTypes := #[t] }, type := ty, pos := pos, after := after, guard := guard } (yielded ops a.tmps) = true)
    (h : wpList P ops Q rest (a.put dst (.int .i64 n)) w) : wpList P ops Q ({ dst := dst, op := .call { callee := .builtin .len, args := #[x], argTypes := #[t] }, type := ty, pos := pos, after := after, guard := guard } :: rest) a w := by
  subst hn; exact wpL_lenStr ht hx hg h
theorem wpL_quoI {t yt : TypeId} {x y : Operand} {p q r : Int} (hx : a.eval x = .int .i64 p) (hy : a.eval y = .int .i64 q) (hp : 0 ≤ p ∧ p ≤ 9223372036854775807 ∧ 1 ≤ q) (hr : p / q = r)
    (hg : Region.wanted { dst := dst, op := .binOp .quo t x y yt, type := ty, pos := pos, after := after, guard := guard } (yielded ops a.tmps) = true)
    (h : wpList P ops Q rest (a.put dst (.int .i64 r)) w) : wpList P ops Q ({ dst := dst, op := .binOp .quo t x y yt, type := ty, pos := pos, after := after, guard := guard } :: rest) a w := by
  subst hr
  refine wpList_ex hg ?_ h
  have he : ∀ u v, eqGuard .quo t x y u v = pure () := fun _ _ => rfl
  have hr : (binOp .quo t (.int .i64 p) (.int .i64 q)).run P w = .ok (.int .i64 (p / q)) w := by
    show (Op.intDiv .quo .i64 p q).run P w = _
    have h0 : ¬ q = 0 := by omega
    simp only [Op.intDiv, h0, if_false, Sem.run_pure]
    rw [IntWalk.i64_quo _ _ hp]
  simp only [execOp, hx, hy, Sem.run_bind, he, Sem.run_pure, Result.andThen_ok, hr]
end
set_option maxRecDepth 100000 in
set_option maxHeartbeats 4000000 in
theorem join_any (w : World) (v : Value) (ls : List (List UInt8)) (hl : Strs w v ls) (hn : ls.length ≤ 100) (hb : ∀ x ∈ ls, x.length ≤ 100) (hne : ∀ x ∈ ls, x ≠ []) : Calls Try.prog 43 #[v, str [32]] w (RetS w (joinS [32] ls)) := by
  obtain ⟨ao, cap, rfl, hcp⟩ := Sl.shape hl
  have HL := hid hl
  have HB := hid hb
  have HN := hid hne
  clear hl hb hne
  have HH := hid (Holds.init w)
  match ls, HL, HB, HN, hn, hcp with
  | [], HL, HB, HN, hn, hcp =>
    go_enter Try.func43, Try.ntmps43
    go_wp2_with (first
      | ((first
          | ((with_reducible apply wpL_skip); rfl; skip)
          | ((with_reducible apply wpL_nilCheck); rfl; rfl)
          | ((with_reducible apply wpL_load1 (t := 9) kO9 HH.out); rfl; (first | exact .here | exact .there .here | exact .there (.there .here) | exact .there (.there (.there .here)) | exact .there (.there (.there (.there .here))) | exact .there (.there (.there (.there (.there .here)))) | exact .there (.there (.there (.there (.there (.there .here))))) | exact .there (.there (.there (.there (.there (.there (.there .here))))))); rfl; rfl)
          | ((with_reducible apply wpL_len (t := 75) Try.underlying75); rfl; rfl)
          | ((with_reducible apply wpL_allocC (dst := some 8) kZ87 HH.out); rfl; (intro g8_ w_ hq_; (try simp only [List.set_cons_zero, List.set_cons_succ] at hq_); clear HH; have HH := hid hq_; clear hq_))
          | ((with_reducible apply wpL_move); rfl; rfl)
          | ((with_reducible apply wpL_assign); rfl; rfl)
          | ((with_reducible apply wpL_pick); rfl; rfl; rfl)
          | ((with_reducible apply wpL_not); rfl; rfl)
          | ((with_reducible apply wpL_cmp (b := true)); rfl; rfl; rfl; (first | rfl | assumption | (simp only [cmpB, decide_eq_true_eq, decide_eq_false_iff_not, beq_iff_eq, bne_iff_ne, ne_eq, beq_eq_false_iff_ne, bne_eq_false_iff_eq, gt_iff_lt, ge_iff_le]; omega) | (simp; omega)); rfl)
          | ((with_reducible apply wpL_cmp (b := false)); rfl; rfl; rfl; (first | rfl | assumption | (simp only [cmpB, decide_eq_true_eq, decide_eq_false_iff_not, beq_iff_eq, bne_iff_ne, ne_eq, beq_eq_false_iff_ne, bne_eq_false_iff_eq, gt_iff_lt, ge_iff_le]; omega) | (simp; omega)); rfl)
          | ((with_reducible apply wpL_cmp); rfl; rfl; rfl; rfl; rfl)
          | ((with_reducible apply wpL_arith); rfl; rfl; rfl; (exact IntWalk.i64_in _ (by (try simp only [arithI]); omega)); rfl)); (try simp only [arithI, Act.put, Act.eval, List.setIfInBounds_toArray, List.set_cons_succ, List.set_cons_zero, Array.getD_eq_getD_getElem?, List.getElem?_toArray, List.getElem?_cons_succ, List.getElem?_cons_zero, Option.getD_some])))
    go_ret
    exact ⟨rfl, HH.out.below⟩
  | [x], HL, HB, HN, hn, hcp =>
    obtain ⟨ad, cd, he⟩ := Sl.some HL.out (by simp)
    cases he
    go_enter Try.func43, Try.ntmps43
    go_wp2_with (first
      | ((first
          | ((with_reducible apply wpL_skip); rfl; skip)
          | ((with_reducible apply wpL_idxB (j := 0) kE75); rfl; rfl; rfl; (exact (by simp)); rfl)
          | ((with_reducible apply wpL_loadAt (v := str x) kO9); (have hc_ := str_cell HL.out (k := 0) (by simp); exact hc_); rfl; rfl)
          | ((with_reducible apply wpL_nilCheck); rfl; rfl)
          | ((with_reducible apply wpL_load1 (t := 9) kO9 HH.out); rfl; (first | exact .here | exact .there .here | exact .there (.there .here) | exact .there (.there (.there .here)) | exact .there (.there (.there (.there .here))) | exact .there (.there (.there (.there (.there .here)))) | exact .there (.there (.there (.there (.there (.there .here))))) | exact .there (.there (.there (.there (.there (.there (.there .here))))))); rfl; rfl)
          | ((with_reducible apply wpL_len (t := 75) Try.underlying75); rfl; rfl)
          | ((with_reducible apply wpL_allocC (dst := some 8) kZ87 HH.out); rfl; (intro g8_ w_ hq_; (try simp only [List.set_cons_zero, List.set_cons_succ] at hq_); clear HH; have HH := hid hq_; clear hq_))
          | ((with_reducible apply wpL_move); rfl; rfl)
          | ((with_reducible apply wpL_assign); rfl; rfl)
          | ((with_reducible apply wpL_pick); rfl; rfl; rfl)
          | ((with_reducible apply wpL_not); rfl; rfl)
          | ((with_reducible apply wpL_cmp (b := true)); rfl; rfl; rfl; (first | rfl | assumption | (simp only [cmpB, decide_eq_true_eq, decide_eq_false_iff_not, beq_iff_eq, bne_iff_ne, ne_eq, beq_eq_false_iff_ne, bne_eq_false_iff_eq, gt_iff_lt, ge_iff_le]; omega) | (simp; omega)); rfl)
          | ((with_reducible apply wpL_cmp (b := false)); rfl; rfl; rfl; (first | rfl | assumption | (simp only [cmpB, decide_eq_true_eq, decide_eq_false_iff_not, beq_iff_eq, bne_iff_ne, ne_eq, beq_eq_false_iff_ne, bne_eq_false_iff_eq, gt_iff_lt, ge_iff_le]; omega) | (simp; omega)); rfl)
          | ((with_reducible apply wpL_cmp); rfl; rfl; rfl; rfl; rfl)
          | ((with_reducible apply wpL_arith); rfl; rfl; rfl; (exact IntWalk.i64_in _ (by (try simp only [arithI]); omega)); rfl)); (try simp only [arithI, Act.put, Act.eval, List.setIfInBounds_toArray, List.set_cons_succ, List.set_cons_zero, Array.getD_eq_getD_getElem?, List.getElem?_toArray, List.getElem?_cons_succ, List.getElem?_cons_zero, Option.getD_some])))
    go_ret
    exact ⟨rfl, HH.out.below⟩
  | x :: y :: r, HL, HB, HN, hn, hcp =>
    generalize hls : x :: y :: r = ls at *
    have h2 : 2 ≤ ls.length := by rw [← hls]; simp
    clear hls x y r
    obtain ⟨ad, cd, he⟩ := Sl.some HL.out (by omega)
    cases he
    obtain ⟨q, hq⟩ : ∃ q : Int, (9223372036854775807 : Int) / ((ls.length : Int) - 1) = q := ⟨_, rfl⟩
    have hq2 : 1000 ≤ q := by
      have h3 : (1000 : Int) * ((ls.length : Int) - 1) ≤ 9223372036854775807 := by omega
      rw [← hq]
      exact Int.le_ediv_of_mul_le (by omega) h3
    have HQ0 := hid hq
    clear hq
    go_enter Try.func43, Try.ntmps43
    go_wp2_with (first
      | ((first
          | ((with_reducible apply wpL_skip); rfl; skip)
          | ((with_reducible apply wpL_lenStrN (l := [32]) (n := 1) Try.underlying9); rfl; rfl; rfl)
          | ((with_reducible apply wpL_quoI (r := q)); rfl; rfl; (exact (by omega)); (exact HQ0.out); rfl)
          | ((with_reducible apply wpL_nilCheck); rfl; rfl)
          | ((with_reducible apply wpL_load1 (t := 9) kO9 HH.out); rfl; (first | exact .here | exact .there .here | exact .there (.there .here) | exact .there (.there (.there .here)) | exact .there (.there (.there (.there .here))) | exact .there (.there (.there (.there (.there .here)))) | exact .there (.there (.there (.there (.there (.there .here))))) | exact .there (.there (.there (.there (.there (.there (.there .here))))))); rfl; rfl)
          | ((with_reducible apply wpL_len (t := 75) Try.underlying75); rfl; rfl)
          | ((with_reducible apply wpL_allocC (dst := some 8) kZ87 HH.out); rfl; (intro g8_ w_ hq_; (try simp only [List.set_cons_zero, List.set_cons_succ] at hq_); clear HH; have HH := hid hq_; clear hq_))
          | ((with_reducible apply wpL_move); rfl; rfl)
          | ((with_reducible apply wpL_assign); rfl; rfl)
          | ((with_reducible apply wpL_pick); rfl; rfl; rfl)
          | ((with_reducible apply wpL_not); rfl; rfl)
          | ((with_reducible apply wpL_cmp (b := true)); rfl; rfl; rfl; (first | rfl | assumption | (simp only [cmpB, decide_eq_true_eq, decide_eq_false_iff_not, beq_iff_eq, bne_iff_ne, ne_eq, beq_eq_false_iff_ne, bne_eq_false_iff_eq, gt_iff_lt, ge_iff_le]; omega) | (simp; omega)); rfl)
          | ((with_reducible apply wpL_cmp (b := false)); rfl; rfl; rfl; (first | rfl | assumption | (simp only [cmpB, decide_eq_true_eq, decide_eq_false_iff_not, beq_iff_eq, bne_iff_ne, ne_eq, beq_eq_false_iff_ne, bne_eq_false_iff_eq, gt_iff_lt, ge_iff_le]; omega) | (simp; omega)); rfl)
          | ((with_reducible apply wpL_cmp); rfl; rfl; rfl; rfl; rfl)
          | ((with_reducible apply wpL_arith); rfl; rfl; rfl; (exact IntWalk.i64_in _ (by (try simp only [arithI]); omega)); rfl)); (try simp only [arithI, Act.put, Act.eval, List.setIfInBounds_toArray, List.set_cons_succ, List.set_cons_zero, Array.getD_eq_getD_getElem?, List.getElem?_toArray, List.getElem?_cons_succ, List.getElem?_cons_zero, Option.getD_some])))
    go_loopw [5, 41] (JRel1 w ls) (fun _ i _ => ls.length - (intOf i).toNat)
    case atStart => exact ⟨0, ls.length - 1, by omega, rfl, by congr 1; omega, by omega, by omega, HH.out⟩
    case round =>
      obtain ⟨k, m, hk, rfl, rfl, hm1, hm2, hr⟩ := hrel
      clear HH
      have HH := hid hr
      clear hr
      by_cases hlt : k < ls.length
      · obtain ⟨s, hs⟩ : ∃ s, ls[k] = s := ⟨_, rfl⟩
        have hsl : s.length ≤ 100 := by rw [← hs]; exact HB.out _ (List.getElem_mem hlt)
        have hc := str_cell HL.out hlt
        rw [hs] at hc
        have HC := hid (show ∀ w', Holds w [] [] [] w' → w'.cell? (ad.add k) = some (str s) from fun w' h' => by
          have := str_cell (show Strs w' (.slice (some ad) ls.length cap) ls from h'.sl HL.out) hlt
          rw [hs] at this; exact this)
        clear hs hc
        go_wp2_with (first
          | ((first
              | ((with_reducible apply wpL_skip); rfl; skip)
              | ((with_reducible apply wpL_idxB (j := k) kE75); rfl; rfl; rfl; (exact hlt); rfl)
              | ((with_reducible apply wpL_loadAt (v := str s) kO9); (exact HC.out _ HH.out); rfl; rfl)
              | ((with_reducible apply wpL_lenStr (l := s) Try.underlying9); rfl; rfl)
              | ((with_reducible apply wpL_nilCheck); rfl; rfl)
              | ((with_reducible apply wpL_load1 (t := 9) kO9 HH.out); rfl; (first | exact .here | exact .there .here | exact .there (.there .here) | exact .there (.there (.there .here)) | exact .there (.there (.there (.there .here))) | exact .there (.there (.there (.there (.there .here)))) | exact .there (.there (.there (.there (.there (.there .here))))) | exact .there (.there (.there (.there (.there (.there (.there .here))))))); rfl; rfl)
              | ((with_reducible apply wpL_len (t := 75) Try.underlying75); rfl; rfl)
              | ((with_reducible apply wpL_allocC (dst := some 8) kZ87 HH.out); rfl; (intro g8_ w_ hq_; (try simp only [List.set_cons_zero, List.set_cons_succ] at hq_); clear HH; have HH := hid hq_; clear hq_))
              | ((with_reducible apply wpL_move); rfl; rfl)
              | ((with_reducible apply wpL_assign); rfl; rfl)
              | ((with_reducible apply wpL_pick); rfl; rfl; rfl)
              | ((with_reducible apply wpL_not); rfl; rfl)
              | ((with_reducible apply wpL_cmp (b := true)); rfl; rfl; rfl; (first | rfl | assumption | (simp only [cmpB, decide_eq_true_eq, decide_eq_false_iff_not, beq_iff_eq, bne_iff_ne, ne_eq, beq_eq_false_iff_ne, bne_eq_false_iff_eq, gt_iff_lt, ge_iff_le]; omega) | (simp; omega)); rfl)
              | ((with_reducible apply wpL_cmp (b := false)); rfl; rfl; rfl; (first | rfl | assumption | (simp only [cmpB, decide_eq_true_eq, decide_eq_false_iff_not, beq_iff_eq, bne_iff_ne, ne_eq, beq_eq_false_iff_ne, bne_eq_false_iff_eq, gt_iff_lt, ge_iff_le]; omega) | (simp; omega)); rfl)
              | ((with_reducible apply wpL_cmp); rfl; rfl; rfl; rfl; rfl)
              | ((with_reducible apply wpL_arith); rfl; rfl; rfl; (exact IntWalk.i64_in _ (by (try simp only [arithI]); omega)); rfl)); (try simp only [arithI, Act.put, Act.eval, List.setIfInBounds_toArray, List.set_cons_succ, List.set_cons_zero, Array.getD_eq_getD_getElem?, List.getElem?_toArray, List.getElem?_cons_succ, List.getElem?_cons_zero, Option.getD_some])))
        go_roundw
        case rel => exact ⟨k + 1, m + s.length, by omega, by go_num, by go_num, by omega, by omega, HH.out⟩
        case measure => simp [intOf]; omega
      · have hc0 := fun w' (h' : Holds w [] [] [] w') => str_cell (show Strs w' (.slice (some ad) ls.length cap) ls from h'.sl HL.out) (k := 0) (by omega)
        obtain ⟨s0, hs0⟩ : ∃ s, ls[0] = s := ⟨_, rfl⟩
        have hs0l : s0.length ≤ 100 := by rw [← hs0]; exact HB.out _ (List.getElem_mem (by omega))
        have HJ0 := hid (show joinS [32] (ls.take 1) = s0 by rw [← hs0, List.take_one, List.head?_eq_getElem?, List.getElem?_eq_getElem (by omega)]; rfl)
        have HZ := hid (show ([] : List UInt8) ++ s0 = s0 from rfl)
        rw [hs0] at hc0
        have HC0 := hid (show w.cell? ad = some (str s0) from by have := hc0 w (Holds.init w); rwa [show ad.add 0 = ad by unfold Addr.add; rfl] at this)
        clear hs0 hc0
        have HLW := hid (show ∀ bs rows w', Holds w [] bs rows w' → w'.cell? (ad.add 0) = some (str s0) from fun bs rows w' h' => by
          have := (show Strs w' (.slice (some ad) ls.length cap) ls from h'.sl HL.out)
          have h3 := str_cell this (k := 0) (by omega)
          have h4 := str_cell (show Strs w (.slice (some ad) ls.length cap) ls from HL.out) (k := 0) (by omega)
          rw [show ad.add 0 = ad by unfold Addr.add; rfl] at h4
          rw [HC0.out] at h4
          rw [h3, ← h4])
        go_wp2_with (first
          | ((first
              | ((with_reducible apply wpL_skip); rfl; skip)
              | (go_at_call 50; (have hcall_ := hid (Grow_own _ _ _ g8_ m _ _ (by omega) hm1 HH.out)); (with_reducible refine hcall_.out.mono ?_); clear hcall_; rintro e_ w2_ ⟨rfl, aog, capg, hq_⟩; clear HH; have HH := hid hq_; clear hq_)
              | ((with_reducible apply wpL_idxB (j := 0) kE75); rfl; rfl; rfl; (exact (by omega)); rfl)
              | ((with_reducible apply wpL_loadAt (v := str s0) kO9); (exact HLW.out _ _ _ HH.out); rfl; rfl)
              | (go_at_call 51; (have hcall_ := hid (writeString_own _ _ _ g8_ _ _ _ _ [] s0 s0 _ _ (.inr rfl) rfl (by simp; omega) HZ.out HH.out)); (with_reducible refine hcall_.out.mono ?_); clear hcall_; rintro e_ w2_ ⟨rfl, ao3, cap3, hq_⟩; clear HH; have HH := hid hq_; clear hq_)
              | ((with_reducible apply wpL_sliceFrom (j := 1) kE75); rfl; rfl; rfl; (exact (by omega)); (exact (by omega)); rfl)
              | ((with_reducible apply wpL_nilCheck); rfl; rfl)
              | ((with_reducible apply wpL_load1 (t := 9) kO9 HH.out); rfl; (first | exact .here | exact .there .here | exact .there (.there .here) | exact .there (.there (.there .here)) | exact .there (.there (.there (.there .here))) | exact .there (.there (.there (.there (.there .here)))) | exact .there (.there (.there (.there (.there (.there .here))))) | exact .there (.there (.there (.there (.there (.there (.there .here))))))); rfl; rfl)
              | ((with_reducible apply wpL_len (t := 75) Try.underlying75); rfl; rfl)
              | ((with_reducible apply wpL_allocC (dst := some 8) kZ87 HH.out); rfl; (intro g8_ w_ hq_; (try simp only [List.set_cons_zero, List.set_cons_succ] at hq_); clear HH; have HH := hid hq_; clear hq_))
              | ((with_reducible apply wpL_move); rfl; rfl)
              | ((with_reducible apply wpL_assign); rfl; rfl)
              | ((with_reducible apply wpL_pick); rfl; rfl; rfl)
              | ((with_reducible apply wpL_not); rfl; rfl)
              | ((with_reducible apply wpL_cmp (b := true)); rfl; rfl; rfl; (first | rfl | assumption | (simp only [cmpB, decide_eq_true_eq, decide_eq_false_iff_not, beq_iff_eq, bne_iff_ne, ne_eq, beq_eq_false_iff_ne, bne_eq_false_iff_eq, gt_iff_lt, ge_iff_le]; omega) | (simp; omega)); rfl)
              | ((with_reducible apply wpL_cmp (b := false)); rfl; rfl; rfl; (first | rfl | assumption | (simp only [cmpB, decide_eq_true_eq, decide_eq_false_iff_not, beq_iff_eq, bne_iff_ne, ne_eq, beq_eq_false_iff_ne, bne_eq_false_iff_eq, gt_iff_lt, ge_iff_le]; omega) | (simp; omega)); rfl)
              | ((with_reducible apply wpL_cmp); rfl; rfl; rfl; rfl; rfl)
              | ((with_reducible apply wpL_arith); rfl; rfl; rfl; (exact IntWalk.i64_in _ (by (try simp only [arithI]); omega)); rfl)); (try simp only [arithI, Act.put, Act.eval, List.setIfInBounds_toArray, List.set_cons_succ, List.set_cons_zero, Array.getD_eq_getD_getElem?, List.getElem?_toArray, List.getElem?_cons_succ, List.getElem?_cons_zero, Option.getD_some])))
        go_loopw [65] (JRel2 w ls g8_) (fun i _ => ls.length - (intOf i).toNat)
        case atStart => exact ⟨0, by omega, rfl, ao3, cap3, by rw [HJ0.out]; exact HH.out⟩
        case round =>
          obtain ⟨j, hj, rfl, ao4, cap4, hr⟩ := hrel
          have hjl := joinS_len (sep := [32]) (by simp) (ls.take (j + 1)) fun x hx => HB.out x (List.mem_of_mem_take hx)
          rw [List.length_take] at hjl
          clear HH
          have HH := hid hr
          clear hr
          obtain ⟨c, hc⟩ : ∃ c, joinS [32] (ls.take (j + 1)) = c := ⟨_, rfl⟩
          have hcl : c.length ≤ 20000 := by rw [← hc]; omega
          by_cases hjt : j + 1 < ls.length
          · obtain ⟨s, hs⟩ : ∃ s, ls[j + 1] = s := ⟨_, rfl⟩
            have hsl : s.length ≤ 100 := by rw [← hs]; exact HB.out _ (List.getElem_mem hjt)
            have HST := hid (joinS_step (sep := [32]) (l := ls) hjt (by omega))
            have HC := hid (show ∀ bs rows w', Holds w [] bs rows w' → w'.cell? ((ad.add (1 * 1)).add j) = some (str s) from fun bs rows w' h' => by
              have h1 := str_cell (show Strs w' (.slice (some ad) ls.length cap) ls from h'.sl HL.out) hjt
              rw [hs] at h1
              rw [Deep.add_add, show 1 * 1 + j = j + 1 by omega]
              exact h1)
            rw [hs, hc] at HST
            have h0 := HH.out
            rw [hc] at h0
            clear HH hjl
            have HH := hid h0
            clear h0 hs hc
            go_wp2_with (first
              | ((first
                  | ((with_reducible apply wpL_skip); rfl; skip)
                  | ((with_reducible apply wpL_idxB (dst := some 67) (j := j) kE75); rfl; rfl; rfl; (exact (by omega)); rfl)
                  | ((with_reducible apply wpL_loadAt (dst := some 68) (v := str s) kO9); (exact HC.out _ _ _ HH.out); rfl; rfl)
                  | (go_at_call 51; (have hcall_ := hid (writeString_own _ _ _ g8_ _ _ _ _ c [32] (c ++ [32]) _ _ (.inr rfl) rfl (by simp; omega) rfl HH.out)); (with_reducible refine hcall_.out.mono ?_); clear hcall_; rintro e_ w2_ ⟨rfl, ao5, cap5, hq_⟩; clear HH; have HH := hid hq_; clear hq_)
                  | (go_at_call 51; (have hcall_ := hid (writeString_own _ _ _ g8_ _ _ _ _ (c ++ [32]) s (joinS [32] (ls.take (j + 1 + 1))) _ _ (.inr rfl) rfl (by simp; omega) HST.out HH.out)); (with_reducible refine hcall_.out.mono ?_); clear hcall_; rintro e_ w2_ ⟨rfl, ao6, cap6, hq_⟩; clear HH; have HH := hid hq_; clear hq_)
                  | ((with_reducible apply wpL_nilCheck); rfl; rfl)
                  | ((with_reducible apply wpL_load1 (t := 9) kO9 HH.out); rfl; (first | exact .here | exact .there .here | exact .there (.there .here) | exact .there (.there (.there .here)) | exact .there (.there (.there (.there .here))) | exact .there (.there (.there (.there (.there .here)))) | exact .there (.there (.there (.there (.there (.there .here))))) | exact .there (.there (.there (.there (.there (.there (.there .here))))))); rfl; rfl)
                  | ((with_reducible apply wpL_len (t := 75) Try.underlying75); rfl; rfl)
                  | ((with_reducible apply wpL_allocC (dst := some 8) kZ87 HH.out); rfl; (intro g8_ w_ hq_; (try simp only [List.set_cons_zero, List.set_cons_succ] at hq_); clear HH; have HH := hid hq_; clear hq_))
                  | ((with_reducible apply wpL_move); rfl; rfl)
                  | ((with_reducible apply wpL_assign); rfl; rfl)
                  | ((with_reducible apply wpL_pick); rfl; rfl; rfl)
                  | ((with_reducible apply wpL_not); rfl; rfl)
                  | ((with_reducible apply wpL_cmp (b := true)); rfl; rfl; rfl; (first | rfl | assumption | (simp only [cmpB, decide_eq_true_eq, decide_eq_false_iff_not, beq_iff_eq, bne_iff_ne, ne_eq, beq_eq_false_iff_ne, bne_eq_false_iff_eq, gt_iff_lt, ge_iff_le]; omega) | (simp; omega)); rfl)
                  | ((with_reducible apply wpL_cmp (b := false)); rfl; rfl; rfl; (first | rfl | assumption | (simp only [cmpB, decide_eq_true_eq, decide_eq_false_iff_not, beq_iff_eq, bne_iff_ne, ne_eq, beq_eq_false_iff_ne, bne_eq_false_iff_eq, gt_iff_lt, ge_iff_le]; omega) | (simp; omega)); rfl)
                  | ((with_reducible apply wpL_cmp); rfl; rfl; rfl; rfl; rfl)
                  | ((with_reducible apply wpL_arith); rfl; rfl; rfl; (exact IntWalk.i64_in _ (by (try simp only [arithI]); omega)); rfl)); (try simp only [arithI, Act.put, Act.eval, List.setIfInBounds_toArray, List.set_cons_succ, List.set_cons_zero, Array.getD_eq_getD_getElem?, List.getElem?_toArray, List.getElem?_cons_succ, List.getElem?_cons_zero, Option.getD_some])))
            go_roundw
            case rel => exact ⟨j + 1, by omega, by go_num, _, _, HH.out⟩
            case measure => simp [intOf]; omega
          · have hall : joinS [32] ls = c := by rw [← hc, List.take_of_length_le (by omega)]
            have hne : c ≠ [] := by
              rw [← hall]
              intro e
              have h1 : ls = ls[0] :: ls.drop 1 := by rw [← List.drop_eq_getElem_cons (by omega)]; rfl
              have h2 := HN.out ls[0] (List.getElem_mem (by omega))
              rw [h1] at e
              cases hd : ls.drop 1 with
              | nil => rw [hd] at e; exact h2 e
              | cons z r => rw [hd] at e; simp [joinS] at e
            have h0 := HH.out
            rw [hc] at h0
            clear HH hjl
            have HH := hid h0
            have HNE := hid hne
            have HALL := hid hall
            clear h0 hc hall hne
            go_wp2_with (first
              | ((first
                  | ((with_reducible apply wpL_skip); rfl; skip)
                  | (go_at_call 52; (first | ((have hcall_ := hid (string_own _ _ _ g8_ _ _ _ _ c _ _ rfl HNE.out (by omega) HH.out)); (with_reducible refine hcall_.out.mono ?_); clear hcall_) | (with_reducible refine (string_own _ _ _ g8_ _ _ _ _ c _ _ rfl HNE.out (by omega) HH.out).mono ?_)); rintro e_ w2_ ⟨rfl, hb_⟩; (have hq_ := hb_); clear HH; have HH := hid hq_; clear hq_)
                  | ((with_reducible apply wpL_nilCheck); rfl; rfl)
                  | ((with_reducible apply wpL_load1 (t := 9) kO9 HH.out); rfl; (first | exact .here | exact .there .here | exact .there (.there .here) | exact .there (.there (.there .here)) | exact .there (.there (.there (.there .here))) | exact .there (.there (.there (.there (.there .here)))) | exact .there (.there (.there (.there (.there (.there .here))))) | exact .there (.there (.there (.there (.there (.there (.there .here))))))); rfl; rfl)
                  | ((with_reducible apply wpL_len (t := 75) Try.underlying75); rfl; rfl)
                  | ((with_reducible apply wpL_allocC (dst := some 8) kZ87 HH.out); rfl; (intro g8_ w_ hq_; (try simp only [List.set_cons_zero, List.set_cons_succ] at hq_); clear HH; have HH := hid hq_; clear hq_))
                  | ((with_reducible apply wpL_move); rfl; rfl)
                  | ((with_reducible apply wpL_assign); rfl; rfl)
                  | ((with_reducible apply wpL_pick); rfl; rfl; rfl)
                  | ((with_reducible apply wpL_not); rfl; rfl)
                  | ((with_reducible apply wpL_cmp (b := true)); rfl; rfl; rfl; (first | rfl | assumption | (simp only [cmpB, decide_eq_true_eq, decide_eq_false_iff_not, beq_iff_eq, bne_iff_ne, ne_eq, beq_eq_false_iff_ne, bne_eq_false_iff_eq, gt_iff_lt, ge_iff_le]; omega) | (simp; omega)); rfl)
                  | ((with_reducible apply wpL_cmp (b := false)); rfl; rfl; rfl; (first | rfl | assumption | (simp only [cmpB, decide_eq_true_eq, decide_eq_false_iff_not, beq_iff_eq, bne_iff_ne, ne_eq, beq_eq_false_iff_ne, bne_eq_false_iff_eq, gt_iff_lt, ge_iff_le]; omega) | (simp; omega)); rfl)
                  | ((with_reducible apply wpL_cmp); rfl; rfl; rfl; rfl; rfl)
                  | ((with_reducible apply wpL_arith); rfl; rfl; rfl; (exact IntWalk.i64_in _ (by (try simp only [arithI]); omega)); rfl)); (try simp only [arithI, Act.put, Act.eval, List.setIfInBounds_toArray, List.set_cons_succ, List.set_cons_zero, Array.getD_eq_getD_getElem?, List.getElem?_toArray, List.getElem?_cons_succ, List.getElem?_cons_zero, Option.getD_some])))
            go_ret
            exact ⟨by rw [HALL.out]; rfl, HH.out.below⟩
end Go.Proofs.Ytohdkmgnnncpkaa
