/- The library's Builder: what a caller's memory holds behind WriteByte. Condition: at most a million bytes. -/
import Derived.Test.YtohdkmgnnncpkaaY
import Derived.Test.YtohdkmgnnncpkaaK
import Derived.Lib.UnsafeStr
import Derived.Lib.Builder
set_option linter.unusedSimpArgs false
set_option linter.unusedVariables false
namespace Go.Proofs.Ytohdkmgnnncpkaa
open Go.RowKit
theorem F87_0 : FieldT Try.prog 87 0 0 := ⟨_, _, 0, Try.underlying87, rfl, rfl, by kernel_rfl⟩
theorem F87_1 : FieldT Try.prog 87 1 1 := ⟨_, _, 0, Try.underlying87, rfl, rfl, by kernel_rfl⟩
theorem O85 : OneT Try.prog 85 := ⟨_, Try.underlying85, rfl⟩
theorem S85 : (Try.prog.info? 85).map (·.size) = some 1 := by kernel_rfl
theorem I87 : ∃ j, Try.prog.info? 87 = some j ∧ j.size = 2 := Option.map_eq_some_iff.1 (by kernel_rfl)
section
variable {w w0 : World} {S : List Nat} {bs bs' : List (Nat × Obj)} {rows : List Row} {ops : Array Oper} {rest : List Oper} {a : Act} {dst : Option Tmp} {ty : TypeId} {pos : String} {after : Array Edge} {guard : Option (Nat × Bool)} {Q : Exit → Act → World → Prop}
theorem shape_own (hH : Holds w0 S bs rows w) {b : Nat} {p v : Value} (ho : Own bs b (objC [p, v] 87)) : w.shape? b = some (87, 2) := by
  simp [World.shape?, hH.at ho, objC]
theorem wpL_toUnsafe (hH : Holds w0 S bs rows w) {x : Operand} {b : Nat} {p v : Value} (hx : a.eval x = .pointer (some ⟨b, 0, none⟩)) (ho : Own bs b (objC [p, v] 87))
    (hg : Region.wanted { dst := dst, op := .convert 85 98 x, type := ty, pos := pos, after := after, guard := guard } (yielded ops a.tmps) = true)
    (h : wpList Try.prog ops Q rest (a.put dst (.pointer (some ⟨b, 0, none⟩))) w) : wpList Try.prog ops Q ({ dst := dst, op := .convert 85 98 x, type := ty, pos := pos, after := after, guard := guard } :: rest) a w := by
  obtain ⟨j, hj, hjs⟩ := I87
  refine wpList_ex hg ?_ h
  have hr := Lib.run_to_unsafe (P := Try.prog) w ⟨b, 0, none⟩ Try.underlying85 Try.underlying98 hj (by rw [hjs]; decide) (shape_own hH ho) (Nat.zero_lt_succ 1)
  simp only [execOp, hx, Sem.run_bind, hr, Result.andThen_ok, Sem.run_pure]
theorem wpL_fromUnsafe (hH : Holds w0 S bs rows w) {x : Operand} {b : Nat} {p v : Value} (hx : a.eval x = .pointer (some ⟨b, 0, none⟩)) (ho : Own bs b (objC [p, v] 87))
    (hg : Region.wanted { dst := dst, op := .convert 98 85 x, type := ty, pos := pos, after := after, guard := guard } (yielded ops a.tmps) = true)
    (h : wpList Try.prog ops Q rest (a.put dst (.pointer (some ⟨b, 0, none⟩))) w) : wpList Try.prog ops Q ({ dst := dst, op := .convert 98 85 x, type := ty, pos := pos, after := after, guard := guard } :: rest) a w := by
  obtain ⟨j, hj, hjs⟩ := I87
  refine wpList_ex hg ?_ h
  have hr := Lib.run_from_unsafe (P := Try.prog) w ⟨b, 0, none⟩ Try.underlying98 Try.underlying85 hj (shape_own hH ho) (by kernel_rfl)
  simp only [execOp, hx, Sem.run_bind, hr, Result.andThen_ok, Sem.run_pure]
theorem wpL_noEscape {x : Operand} {ats : Array TypeId} {v : Value} (hx : a.eval x = v)
    (hg : Region.wanted { dst := dst, op := .call { callee := .value (.func 60), args := #[x], argTypes := ats }, type := ty, pos := pos, after := after, guard := guard } (yielded ops a.tmps) = true)
    (h : wpList Try.prog ops Q rest (a.put dst v) w) : wpList Try.prog ops Q ({ dst := dst, op := .call { callee := .value (.func 60), args := #[x], argTypes := ats }, type := ty, pos := pos, after := after, guard := guard } :: rest) a w := by
  refine wpList_ex hg ?_ h
  rw [execOp_call_go]
  simp only [List.map_toArray, List.map_cons, List.map_nil, hx]
  rw [run_callFunc_extern Try.func60 (by kernel_rfl) (by kernel_rfl) (by kernel_rfl) (e := Extern.AbiNoEscape.same) (by kernel_rfl)]
  rfl
theorem wpL_neqSelf {x y : Operand} {yt : TypeId} {ad : Addr} (hx : a.eval x = .pointer (some ad)) (hy : a.eval y = .pointer (some ad))
    (hg : Region.wanted { dst := dst, op := .binOp .neq 85 x y yt, type := ty, pos := pos, after := after, guard := guard } (yielded ops a.tmps) = true)
    (h : wpList Try.prog ops Q rest (a.put dst (.bool false)) w) : wpList Try.prog ops Q ({ dst := dst, op := .binOp .neq 85 x y yt, type := ty, pos := pos, after := after, guard := guard } :: rest) a w := by
  obtain ⟨j, hj, _⟩ := I87
  refine wpList_ex hg ?_ h
  have he : ∀ w, (eqGuard .neq 85 x y (.pointer (some ad)) (.pointer (some ad))).run Try.prog w = .ok () w := fun w => by
    simp [eqGuard, run_underlying Try.underlying85]
  have hr := Lib.run_neq_ptr_same (P := Try.prog) w ad Try.underlying85 hj
  simp only [execOp, hx, hy, Sem.run_bind, he, hr, Result.andThen_ok, Sem.run_pure]
end
@[reducible] def selfP (b : Nat) : Value := .pointer (some ⟨b, 0, none⟩)
set_option maxRecDepth 100000 in
set_option maxHeartbeats 2000000 in
theorem copyCheck_own (w0 w : World) (S : List Nat) (b : Nat) (p v : Value) (bs : List (Nat × Obj)) (rows : List Row) (hp : p = .pointer none ∨ p = selfP b) (h : Holds w0 S ((b, objC [p, v] 87) :: bs) rows w) :
    Calls Try.prog 56 #[selfP b] w (fun e w' => e = .returned (.tuple #[]) ∧ Holds w0 S ((b, objC [selfP b, v] 87) :: bs) rows w') := by
  have HH := hid h
  clear h
  rcases hp with rfl | rfl
  · unfold selfP
    go_enter Try.func56, Try.ntmps56
    go_wp2_with (first
      | ((first
          | ((with_reducible apply wpL_skip); rfl; skip)
          | ((with_reducible apply wpL_toUnsafe HH.out); rfl; (exact .here); rfl)
          | ((with_reducible apply wpL_fromUnsafe HH.out); rfl; (exact .here); rfl)
          | ((with_reducible apply wpL_noEscape); rfl; rfl)
          | ((with_reducible apply wpL_nilCheck); rfl; rfl)
          | ((with_reducible apply wpL_fieldAddr); (first | exact kF87_0); rfl; rfl)
          | ((with_reducible apply wpL_load1 (t := 85) kO85 HH.out); rfl; (first | exact .here | exact .there .here | exact .there (.there .here) | exact .there (.there (.there .here)) | exact .there (.there (.there (.there .here))) | exact .there (.there (.there (.there (.there .here)))) | exact .there (.there (.there (.there (.there (.there .here))))) | exact .there (.there (.there (.there (.there (.there (.there .here))))))); rfl; rfl)
          | ((with_reducible apply wpL_store1 (t := 85)); rfl; rfl; rfl; (exact kS85); (exact HH.out); (first | exact .here | exact .there .here | exact .there (.there .here) | exact .there (.there (.there .here)) | exact .there (.there (.there (.there .here))) | exact .there (.there (.there (.there (.there .here)))) | exact .there (.there (.there (.there (.there (.there .here))))) | exact .there (.there (.there (.there (.there (.there (.there .here))))))); rfl; (first | exact Nat.le_of_ble_eq_true rfl | (simp; done) | omega); rfl; (intro w_ hq_; (try simp only [List.set_cons_zero, List.set_cons_succ] at hq_); clear HH; have HH := hid hq_; clear hq_))
          | ((with_reducible apply wpL_move); rfl; rfl)
          | ((with_reducible apply wpL_assign); rfl; rfl)
          | ((with_reducible apply wpL_pick); rfl; rfl; rfl)
          | ((with_reducible apply wpL_not); rfl; rfl)
          | ((with_reducible apply wpL_cmp (b := true)); rfl; rfl; rfl; (first | rfl | assumption | (simp only [cmpB, decide_eq_true_eq, decide_eq_false_iff_not, beq_iff_eq, bne_iff_ne, ne_eq, beq_eq_false_iff_ne, bne_eq_false_iff_eq, gt_iff_lt, ge_iff_le]; omega) | (simp; omega)); rfl)
          | ((with_reducible apply wpL_cmp (b := false)); rfl; rfl; rfl; (first | rfl | assumption | (simp only [cmpB, decide_eq_true_eq, decide_eq_false_iff_not, beq_iff_eq, bne_iff_ne, ne_eq, beq_eq_false_iff_ne, bne_eq_false_iff_eq, gt_iff_lt, ge_iff_le]; omega) | (simp; omega)); rfl)
          | ((with_reducible apply wpL_cmp); rfl; rfl; rfl; rfl; rfl)
          | ((with_reducible apply wpL_arith); rfl; rfl; rfl; (exact IntWalk.i64_in _ (by (try simp only [arithI]); omega)); rfl)); (try simp only [arithI, Act.put, Act.eval, List.setIfInBounds_toArray, List.set_cons_succ, List.set_cons_zero, Array.getD_eq_getD_getElem?, List.getElem?_toArray, List.getElem?_cons_succ, List.getElem?_cons_zero, Option.getD_some])))
    refine bodyPost_end (results_none rfl _ _ _) rfl ⟨rfl, HH.out⟩
  · unfold selfP
    go_enter Try.func56, Try.ntmps56
    go_wp2_with (first
      | ((first
          | ((with_reducible apply wpL_skip); rfl; skip)
          | ((with_reducible apply wpL_neqSelf); rfl; rfl; rfl)
          | ((with_reducible apply wpL_nilCheck); rfl; rfl)
          | ((with_reducible apply wpL_fieldAddr); (first | exact kF87_0); rfl; rfl)
          | ((with_reducible apply wpL_load1 (t := 85) kO85 HH.out); rfl; (first | exact .here | exact .there .here | exact .there (.there .here) | exact .there (.there (.there .here)) | exact .there (.there (.there (.there .here))) | exact .there (.there (.there (.there (.there .here)))) | exact .there (.there (.there (.there (.there (.there .here))))) | exact .there (.there (.there (.there (.there (.there (.there .here))))))); rfl; rfl)
          | ((with_reducible apply wpL_store1 (t := 85)); rfl; rfl; rfl; (exact kS85); (exact HH.out); (first | exact .here | exact .there .here | exact .there (.there .here) | exact .there (.there (.there .here)) | exact .there (.there (.there (.there .here))) | exact .there (.there (.there (.there (.there .here)))) | exact .there (.there (.there (.there (.there (.there .here))))) | exact .there (.there (.there (.there (.there (.there (.there .here))))))); rfl; (first | exact Nat.le_of_ble_eq_true rfl | (simp; done) | omega); rfl; (intro w_ hq_; (try simp only [List.set_cons_zero, List.set_cons_succ] at hq_); clear HH; have HH := hid hq_; clear hq_))
          | ((with_reducible apply wpL_move); rfl; rfl)
          | ((with_reducible apply wpL_assign); rfl; rfl)
          | ((with_reducible apply wpL_pick); rfl; rfl; rfl)
          | ((with_reducible apply wpL_not); rfl; rfl)
          | ((with_reducible apply wpL_cmp (b := true)); rfl; rfl; rfl; (first | rfl | assumption | (simp only [cmpB, decide_eq_true_eq, decide_eq_false_iff_not, beq_iff_eq, bne_iff_ne, ne_eq, beq_eq_false_iff_ne, bne_eq_false_iff_eq, gt_iff_lt, ge_iff_le]; omega) | (simp; omega)); rfl)
          | ((with_reducible apply wpL_cmp (b := false)); rfl; rfl; rfl; (first | rfl | assumption | (simp only [cmpB, decide_eq_true_eq, decide_eq_false_iff_not, beq_iff_eq, bne_iff_ne, ne_eq, beq_eq_false_iff_ne, bne_eq_false_iff_eq, gt_iff_lt, ge_iff_le]; omega) | (simp; omega)); rfl)
          | ((with_reducible apply wpL_cmp); rfl; rfl; rfl; rfl; rfl)
          | ((with_reducible apply wpL_arith); rfl; rfl; rfl; (exact IntWalk.i64_in _ (by (try simp only [arithI]); omega)); rfl)); (try simp only [arithI, Act.put, Act.eval, List.setIfInBounds_toArray, List.set_cons_succ, List.set_cons_zero, Array.getD_eq_getD_getElem?, List.getElem?_toArray, List.getElem?_cons_succ, List.getElem?_cons_zero, Option.getD_some])))
    refine bodyPost_end (results_none rfl _ _ _) rfl ⟨rfl, HH.out⟩
set_option maxRecDepth 100000 in
set_option maxHeartbeats 2000000 in
theorem writeByte_own (w0 w : World) (S : List Nat) (b : Nat) (p : Value) (ao : Option Addr) (cap n : Nat) (l : List UInt8) (c : UInt8) (bs : List (Nat × Obj)) (rows : List Row) (hp : p = .pointer none ∨ p = selfP b) (hn : n = l.length) (hl : l.length ≤ 1000000)
    (h : Holds w0 S ((b, objC [p, .slice ao n cap] 87) :: bs) (rowB ao cap l :: rows) w) :
    Calls Try.prog 59 #[selfP b, byt c] w (fun e w' => e = .returned .nilIface ∧ ∃ ao2 cap2, Holds w0 S ((b, objC [selfP b, .slice ao2 (l ++ [c]).length cap2] 87) :: bs) (rowB ao2 cap2 (l ++ [c]) :: rows) w') := by
  subst hn
  have HH := hid h
  clear h
  unfold selfP
  go_enter Try.func59, Try.ntmps59
  go_wp2_with (first
    | ((first
        | ((with_reducible apply wpL_skip); rfl; skip)
        | (go_at_call 56; (first | ((have hcall_ := hid (copyCheck_own _ _ _ _ _ _ _ _ hp HH.out)); (with_reducible refine hcall_.out.mono ?_); clear hcall_) | (with_reducible refine (copyCheck_own _ _ _ _ _ _ _ _ hp HH.out).mono ?_)); rintro e_ w2_ ⟨rfl, hb_⟩; (have hq_ := hb_); clear HH; have HH := hid hq_; clear hq_)
        | ((with_reducible apply wpL_buildB [c] (dst := some 13)); rfl; rfl; (exact (by omega)); (exact HH.out); rfl; (intro g_ w_ hq_; clear HH; have HH := hid hq_; clear hq_))
        | ((with_reducible apply wpL_appendB (dst := some 14) (l := l) (l2 := [c]) HH.out.swap HH.out.sl0); rfl; rfl; (exact (by simp; omega)); rfl; rfl; rfl; (intro ao1 cap1 w_ hq_; clear HH; have HH := hid hq_.dropSnd; clear hq_))
        | ((with_reducible apply wpL_nilCheck); rfl; rfl)
        | ((with_reducible apply wpL_fieldAddr); (first | exact kF87_1); rfl; rfl)
        | ((with_reducible apply wpL_load1 (t := 81) kO81 HH.out); rfl; (first | exact .here | exact .there .here | exact .there (.there .here) | exact .there (.there (.there .here)) | exact .there (.there (.there (.there .here))) | exact .there (.there (.there (.there (.there .here)))) | exact .there (.there (.there (.there (.there (.there .here))))) | exact .there (.there (.there (.there (.there (.there (.there .here))))))); rfl; rfl)
        | ((with_reducible apply wpL_store1 (t := 81)); rfl; rfl; rfl; (exact kS81); (exact HH.out); (first | exact .here | exact .there .here | exact .there (.there .here) | exact .there (.there (.there .here)) | exact .there (.there (.there (.there .here))) | exact .there (.there (.there (.there (.there .here)))) | exact .there (.there (.there (.there (.there (.there .here))))) | exact .there (.there (.there (.there (.there (.there (.there .here))))))); rfl; (first | exact Nat.le_of_ble_eq_true rfl | (simp; done) | omega); rfl; (intro w_ hq_; (try simp only [List.set_cons_zero, List.set_cons_succ] at hq_); clear HH; have HH := hid hq_; clear hq_))
        | ((with_reducible apply wpL_move); rfl; rfl)
        | ((with_reducible apply wpL_assign); rfl; rfl)
        | ((with_reducible apply wpL_pick); rfl; rfl; rfl)
        | ((with_reducible apply wpL_not); rfl; rfl)
        | ((with_reducible apply wpL_cmp (b := true)); rfl; rfl; rfl; (first | rfl | assumption | (simp only [cmpB, decide_eq_true_eq, decide_eq_false_iff_not, beq_iff_eq, bne_iff_ne, ne_eq, beq_eq_false_iff_ne, bne_eq_false_iff_eq, gt_iff_lt, ge_iff_le]; omega) | (simp; omega)); rfl)
        | ((with_reducible apply wpL_cmp (b := false)); rfl; rfl; rfl; (first | rfl | assumption | (simp only [cmpB, decide_eq_true_eq, decide_eq_false_iff_not, beq_iff_eq, bne_iff_ne, ne_eq, beq_eq_false_iff_ne, bne_eq_false_iff_eq, gt_iff_lt, ge_iff_le]; omega) | (simp; omega)); rfl)
        | ((with_reducible apply wpL_cmp); rfl; rfl; rfl; rfl; rfl)
        | ((with_reducible apply wpL_arith); rfl; rfl; rfl; (exact IntWalk.i64_in _ (by (try simp only [arithI]); omega)); rfl)); (try simp only [arithI, Act.put, Act.eval, List.setIfInBounds_toArray, List.set_cons_succ, List.set_cons_zero, Array.getD_eq_getD_getElem?, List.getElem?_toArray, List.getElem?_cons_succ, List.getElem?_cons_zero, Option.getD_some])))
  go_ret
  exact ⟨rfl, _, _, HH.out⟩
/-- The characters of a string. -/
@[reducible] def str (l : List UInt8) : Value := .string ⟨l.toArray⟩
end Go.Proofs.Ytohdkmgnnncpkaa
