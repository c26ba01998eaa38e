/- The library's Builder handed back as a string; Hex of ascii, String of a digest. Condition: some bytes, at most half a million. -/
import Derived.Test.YtohdkmgnnncpkaaRH1
set_option linter.unusedSimpArgs false
set_option linter.unusedVariables false
namespace Go.Proofs.Ytohdkmgnnncpkaa
open Go.RowKit
section
variable {w w0 : World} {S : List Nat} {bs bs' : List (Nat × Obj)} {rows : List Row} {ops : Array Oper} {rest : List Oper} {a : Act} {dst : Option Tmp} {ty : TypeId} {pos : String} {after : Array Edge} {guard : Option (Nat × Bool)} {Q : Exit → Act → World → Prop} {P : Program} {C : World → Prop} {K : Act → Prop}
theorem wpQ_sliceData {t : TypeId} {x : Operand} {ad : Addr} {n c : Nat} (hx : a.eval x = .slice (some ad) n c) (hc : c ≠ 0)
    (hg : Region.wanted { dst := dst, op := .call { callee := .builtin .unsafeSliceData, args := #[x], argTypes := #[t] }, type := ty, pos := pos, after := after, guard := guard } (yielded ops a.tmps) = true)
    (h : wpQuiet P ops C K rest (a.put dst (.pointer (some ad)))) : wpQuiet P ops C K ({ dst := dst, op := .call { callee := .builtin .unsafeSliceData, args := #[x], argTypes := #[t] }, type := ty, pos := pos, after := after, guard := guard } :: rest) a := by
  refine wpQuiet_ex hg (fun w _ => ?_) h
  rw [BigFrame.execOp_builtin, BigFrame.builtin_unsafeSliceData]
  simp only [List.map_toArray, List.map_cons, List.map_nil, hx, Sem.run_bind, Lib.run_unsafeSliceData_row w #[t] ty ad n c hc, Result.andThen_ok, Sem.run_pure]
theorem grownBy_freeze (w : World) (g n : Nat) : w.grownBy (w.freeze ⟨g, 0, none⟩ n) (some g) := by
  unfold World.freeze
  split
  · exact ⟨rfl, rfl, rfl, Nat.le_refl _, fun _ _ _ => rfl⟩
  · refine ⟨rfl, rfl, rfl, by simp, fun k _ hk => ?_⟩
    simp only [Array.getElem?_modify]
    rw [if_neg (by intro e; exact hk (by rw [← e]))]
theorem Holds.lostRow {r : Row} (h : Holds w0 S bs (r :: rows) w) {w' : World} (hg : w.grownBy w' r.v.ownBlock) : Holds w0 S bs rows w' :=
  (Holds.grownRow (v' := .slice none 0 0) (n' := 0) (xs' := []) h hg (.inr fun k hk => by simp [Value.ownBlock] at hk) (World.ownsRow_nil _ _ _ _)).dropRow
theorem wpL_unsafeString {x n : Operand} {ao : Addr} {cap : Nat} {l : List UInt8} {q : Int} (hH : Holds w0 S bs (rowB (some ao) cap l :: rows) w) (hx : a.eval x = .pointer (some ao)) (hn : a.eval n = .int .i64 q) (hq : q = (l.length : Int)) (h0 : l ≠ []) (hl : l.length ≤ 1000000000)
    (hg : Region.wanted { dst := dst, op := .call { callee := .builtin .unsafeString, args := #[x, n], argTypes := #[96, 3] }, type := ty, pos := pos, after := after, guard := guard } (yielded ops a.tmps) = true)
    (h : ∀ w', Holds w0 S bs rows w' → wpList Try.prog ops Q rest (a.put dst (str l)) w') : wpList Try.prog ops Q ({ dst := dst, op := .call { callee := .builtin .unsafeString, args := #[x, n], argTypes := #[96, 3] }, type := ty, pos := pos, after := after, guard := guard } :: rest) a w := by
  subst hq
  have hown := hH.own0
  have hlen : 0 < l.length := List.length_pos_iff.2 h0
  rcases hown.2 with ⟨hv, hn0⟩ | ⟨g, cap', cur, hv, hb, hgc, hnc, hm, hs, htake⟩
  · omega
  · simp only [Value.slice.injEq, Option.some.injEq, true_and] at hv
    obtain ⟨rfl, rfl⟩ := hv
    have hcell : ∀ j x, l[j]? = some x → w.cell? ((⟨g, 0, none⟩ : Addr).add j) = some (.int .u8 (x.toNat : Int)) := fun j x hj =>
      hown.cells (g := g) rfl j (byt x) (by simp [hj])
    have hsh : w.shape? g = some (5, cur.size) := by simp [World.shape?, hgc]
    have hr := Lib.run_unsafeString_row (P := Try.prog) w 96 3 ty 5 Try.underlying96 (by kernel_rfl) g cur.size hsh l h0 (by omega) (by omega) hcell
    refine wpList_ex hg (v := str l) (w' := w.freeze ⟨g, 0, none⟩ l.length) ?_ (h _ (hH.lostRow (grownBy_freeze w g _)))
    rw [BigFrame.execOp_builtin, BigFrame.builtin_unsafeString]
    simp only [List.map_toArray, List.map_cons, List.map_nil, hx, hn, Sem.run_bind, hr, Result.andThen_ok, Sem.run_pure]
end
set_option maxRecDepth 100000 in
set_option maxHeartbeats 2000000 in
theorem string_own (w0 w : World) (S : List Nat) (b : Nat) (p : Value) (ao : Option Addr) (cap n : Nat) (l : List UInt8) (bs : List (Nat × Obj)) (rows : List Row) (hn : n = l.length) (h0 : l ≠ []) (hl : l.length ≤ 1000000)
    (h : Holds w0 S ((b, objC [p, .slice ao n cap] 87) :: bs) (rowB ao cap l :: rows) w) :
    Calls Try.prog 52 #[selfP b] w (fun e w' => e = .returned (str l) ∧ Holds w0 S bs rows w') := by
  subst hn
  have hp : 0 < l.length := List.length_pos_iff.2 h0
  obtain ⟨ad, hao, hcap⟩ : ∃ ad, ao = some ad ∧ cap ≠ 0 := by
    rcases h.own0.2 with ⟨hv, hn0⟩ | ⟨g, cap', cur, hv, _, _, hnc, _⟩
    · omega
    · simp only [Value.slice.injEq, true_and] at hv
      exact ⟨_, hv.1, by omega⟩
  subst hao
  have HH := hid h
  clear h
  unfold selfP
  go_enter Try.func52, Try.ntmps52
  go_wp2
  refine wp_region_tailQ 10 (by kernel_rfl) (by kernel_rfl) (by kernel_rfl) HH.out ?_
  simp only [List.take_succ_cons, List.take_zero, List.drop_succ_cons, List.drop_zero]
  repeat ((first
    | ((with_reducible apply wpQ_skip); rfl; skip)
    | ((with_reducible apply wpQ_sliceData); rfl; (exact hcap); rfl)
    | ((with_reducible apply wpQ_nilCheck); rfl; rfl)
    | ((with_reducible apply wpQ_fieldAddr); (first | exact kF87_1); rfl; rfl)
    | ((with_reducible apply wpQ_load1 (t := 81) kO81); rfl; (first | exact .here | exact .there .here | exact .there (.there .here) | exact .there (.there (.there .here)) | exact .there (.there (.there (.there .here))) | exact .there (.there (.there (.there (.there .here)))) | exact .there (.there (.there (.there (.there (.there .here))))) | exact .there (.there (.there (.there (.there (.there (.there .here))))))); rfl; rfl)
    | ((with_reducible apply wpQ_len (t := 81) Try.underlying81); rfl; rfl)
    | ((with_reducible apply wpQ_move); rfl; rfl)
    | ((with_reducible apply wpQ_assign); rfl; rfl)
    | ((with_reducible apply wpQ_pick); rfl; rfl; rfl)
    | ((with_reducible apply wpQ_not); rfl; rfl)
    | ((with_reducible apply wpQ_cmp (b := true)); rfl; rfl; rfl; (first | rfl | assumption | (simp only [cmpB, decide_eq_true_eq, decide_eq_false_iff_not, beq_iff_eq, bne_iff_ne, ne_eq, beq_eq_false_iff_ne, bne_eq_false_iff_eq, gt_iff_lt, ge_iff_le]; omega) | (simp; omega)); rfl)
    | ((with_reducible apply wpQ_cmp (b := false)); rfl; rfl; rfl; (first | rfl | assumption | (simp only [cmpB, decide_eq_true_eq, decide_eq_false_iff_not, beq_iff_eq, bne_iff_ne, ne_eq, beq_eq_false_iff_ne, bne_eq_false_iff_eq, gt_iff_lt, ge_iff_le]; omega) | (simp; omega)); rfl)
    | ((with_reducible apply wpQ_cmp); rfl; rfl; rfl; rfl; rfl)
    | ((with_reducible apply wpQ_arith); rfl; rfl; rfl; (exact IntWalk.i64_in _ (by (try simp only [arithI]); omega)); rfl)); (try simp only [if_true, if_false, Bool.false_eq_true, arithI, Act.put, Act.eval, List.setIfInBounds_toArray, List.set_cons_succ, List.set_cons_zero, Array.getD_eq_getD_getElem?, List.getElem?_toArray, List.getElem?_cons_succ, List.getElem?_cons_zero, Option.getD_some]))
  refine wpQuiet_nil ?_
  intro wq hq_
  have HQ := hid hq_
  clear hq_
  clear HH
  have HH := HQ
  clear HQ
  go_wp2_with (first
    | ((first
        | ((with_reducible apply wpL_skip); rfl; skip)
        | ((with_reducible apply wpL_unsafeString HH.out); rfl; rfl; rfl; (exact h0); (exact (by omega)); rfl; (intro w_ hq_; clear HH; have HH := hid hq_; clear hq_))
        | ((with_reducible apply wpL_nilCheck); rfl; rfl)
        | ((with_reducible apply wpL_fieldAddr); (first | exact kF87_1); rfl; rfl)
        | ((with_reducible apply wpL_load1 (t := 81) kO81 HH.out); rfl; (first | exact .here | exact .there .here | exact .there (.there .here) | exact .there (.there (.there .here)) | exact .there (.there (.there (.there .here))) | exact .there (.there (.there (.there (.there .here)))) | exact .there (.there (.there (.there (.there (.there .here))))) | exact .there (.there (.there (.there (.there (.there (.there .here))))))); rfl; rfl)
        | ((with_reducible apply wpL_len (t := 81) Try.underlying81); rfl; rfl)
        | ((with_reducible apply wpL_move); rfl; rfl)
        | ((with_reducible apply wpL_assign); rfl; rfl)
        | ((with_reducible apply wpL_pick); rfl; rfl; rfl)
        | ((with_reducible apply wpL_not); rfl; rfl)
        | ((with_reducible apply wpL_cmp (b := true)); rfl; rfl; rfl; (first | rfl | assumption | (simp only [cmpB, decide_eq_true_eq, decide_eq_false_iff_not, beq_iff_eq, bne_iff_ne, ne_eq, beq_eq_false_iff_ne, bne_eq_false_iff_eq, gt_iff_lt, ge_iff_le]; omega) | (simp; omega)); rfl)
        | ((with_reducible apply wpL_cmp (b := false)); rfl; rfl; rfl; (first | rfl | assumption | (simp only [cmpB, decide_eq_true_eq, decide_eq_false_iff_not, beq_iff_eq, bne_iff_ne, ne_eq, beq_eq_false_iff_ne, bne_eq_false_iff_eq, gt_iff_lt, ge_iff_le]; omega) | (simp; omega)); rfl)
        | ((with_reducible apply wpL_cmp); rfl; rfl; rfl; rfl; rfl)
        | ((with_reducible apply wpL_arith); rfl; rfl; rfl; (exact IntWalk.i64_in _ (by (try simp only [arithI]); omega)); rfl)); (try simp only [arithI, Act.put, Act.eval, List.setIfInBounds_toArray, List.set_cons_succ, List.set_cons_zero, Array.getD_eq_getD_getElem?, List.getElem?_toArray, List.getElem?_cons_succ, List.getElem?_cons_zero, Option.getD_some])))
  go_ret
  exact ⟨rfl, HH.out.dropBlk⟩
end Go.Proofs.Ytohdkmgnnncpkaa
