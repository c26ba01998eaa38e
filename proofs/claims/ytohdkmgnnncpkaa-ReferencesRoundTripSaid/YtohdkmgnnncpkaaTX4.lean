/- The Builder's WriteString, Grow; Join with a space. Condition: texts of at most a thousand bytes. -/
import Derived.Test.YtohdkmgnnncpkaaTX3
set_option linter.unusedSimpArgs false
set_option linter.unusedVariables false
namespace Go.Proofs.Ytohdkmgnnncpkaa
open Go.RowKit
set_option maxRecDepth 100000 in
set_option maxHeartbeats 2000000 in
theorem writeString_own (w0 w : World) (S : List Nat) (b : Nat) (p : Value) (ao : Option Addr) (cap n : Nat) (l m r : List UInt8) (bs : List (Nat × Obj)) (rows : List Row) (hp : p = .pointer none ∨ p = selfP b) (hn : n = l.length) (hl : l.length + m.length ≤ 1000000) (hr : l ++ m = r)
    (h : Holds w0 S ((b, objC [p, .slice ao n cap] 87) :: bs) (rowB ao cap l :: rows) w) :
    Calls Try.prog 51 #[selfP b, str m] w (fun e w' => e = .returned (.tuple #[.int .i64 m.length, .nilIface]) ∧ ∃ ao2 cap2, Holds w0 S ((b, objC [selfP b, .slice ao2 r.length cap2] 87) :: bs) (rowB ao2 cap2 r :: rows) w') := by
  subst hn
  have HH := hid h
  have HR := hid hr
  clear h hr
  unfold selfP
  go_enter Try.func51, Try.ntmps51
  go_wp2_with (first
    | ((first
        | ((with_reducible apply wpL_skip); rfl; skip)
        | (go_at_call 56; (first | ((have hcall_ := hid (copyCheck_own _ _ _ _ _ _ _ _ hp HH.out)); (with_reducible refine hcall_.out.mono ?_); clear hcall_) | (with_reducible refine (copyCheck_own _ _ _ _ _ _ _ _ hp HH.out).mono ?_)); rintro e_ w2_ ⟨rfl, hb_⟩; (have hq_ := hb_); clear HH; have HH := hid hq_; clear hq_)
        | ((with_reducible apply wpL_appendS (dst := some 14) (l := l) (m := m) (r := r) HH.out rfl HR.out); (exact (by omega)); rfl; rfl; rfl; (intro ao1 cap1 w_ hq_; clear HH; have HH := hid hq_; clear hq_))
        | ((with_reducible apply wpL_lenStr (l := m) Try.underlying9); rfl; rfl)
        | ((with_reducible apply wpL_nilCheck); rfl; rfl)
        | ((with_reducible apply wpL_fieldAddr); (first | exact kF87_1); rfl; rfl)
        | ((with_reducible apply wpL_load1 (t := 81) kO81 HH.out); rfl; (first | exact .here | exact .there .here | exact .there (.there .here) | exact .there (.there (.there .here)) | exact .there (.there (.there (.there .here))) | exact .there (.there (.there (.there (.there .here)))) | exact .there (.there (.there (.there (.there (.there .here))))) | exact .there (.there (.there (.there (.there (.there (.there .here))))))); rfl; rfl)
        | ((with_reducible apply wpL_len (t := 81) Try.underlying81); rfl; rfl)
        | ((with_reducible apply wpL_store1 (t := 81)); rfl; rfl; rfl; (exact kS81); (exact HH.out); (first | exact .here | exact .there .here | exact .there (.there .here) | exact .there (.there (.there .here)) | exact .there (.there (.there (.there .here))) | exact .there (.there (.there (.there (.there .here)))) | exact .there (.there (.there (.there (.there (.there .here))))) | exact .there (.there (.there (.there (.there (.there (.there .here))))))); rfl; (first | exact Nat.le_of_ble_eq_true rfl | (simp; done) | omega); rfl; (intro w_ hq_; (try simp only [List.set_cons_zero, List.set_cons_succ] at hq_); clear HH; have HH := hid hq_; clear hq_))
        | ((with_reducible apply wpL_move); rfl; rfl)
        | ((with_reducible apply wpL_assign); rfl; rfl)
        | ((with_reducible apply wpL_pick); rfl; rfl; rfl)
        | ((with_reducible apply wpL_not); rfl; rfl)
        | ((with_reducible apply wpL_cmp (b := true)); rfl; rfl; rfl; (first | rfl | assumption | (simp only [cmpB, decide_eq_true_eq, decide_eq_false_iff_not, beq_iff_eq, bne_iff_ne, ne_eq, beq_eq_false_iff_ne, bne_eq_false_iff_eq, gt_iff_lt, ge_iff_le]; omega) | (simp; omega)); rfl)
        | ((with_reducible apply wpL_cmp (b := false)); rfl; rfl; rfl; (first | rfl | assumption | (simp only [cmpB, decide_eq_true_eq, decide_eq_false_iff_not, beq_iff_eq, bne_iff_ne, ne_eq, beq_eq_false_iff_ne, bne_eq_false_iff_eq, gt_iff_lt, ge_iff_le]; omega) | (simp; omega)); rfl)
        | ((with_reducible apply wpL_cmp); rfl; rfl; rfl; rfl; rfl)
        | ((with_reducible apply wpL_arith); rfl; rfl; rfl; (exact IntWalk.i64_in _ (by (try simp only [arithI]); omega)); rfl)); (try simp only [arithI, Act.put, Act.eval, List.setIfInBounds_toArray, List.set_cons_succ, List.set_cons_zero, Array.getD_eq_getD_getElem?, List.getElem?_toArray, List.getElem?_cons_succ, List.getElem?_cons_zero, Option.getD_some])))
  go_ret2
  exact ⟨rfl, _, _, HH.out⟩
section
variable {P : Program} {ops : Array Oper} {rest : List Oper} {a : Act} {ρ : Operand → Value} {dst : Option Tmp} {ty : TypeId} {pos : String} {after : Array Edge} {guard : Option (Nat × Bool)} {w w0 : World} {S : List Nat} {bs : List (Nat × Obj)} {rows : List Row} {Q : Exit → Act → World → Prop} {C : World → Prop} {K : Act → Prop}
theorem ex_cap {t e : TypeId} (ht : P.underlying t = some (.slice e)) {x : Operand} {ao : Option Addr} {n c : Nat} (hx : ρ x = .slice ao n c) (w : World) :
    (execOp ρ { dst := dst, op := .call { callee := .builtin .cap, args := #[x], argTypes := #[t] }, type := ty, pos := pos, after := after, guard := guard }).run P w = .ok (.value (.int .i64 c)) w := by
  rw [BigFrame.execOp_builtin, BigFrame.builtin_cap]
  simp [hx, Builtin.cap_, run_underlying ht, goInt]
theorem wpQ_cap {t e : TypeId} (ht : P.underlying t = some (.slice e)) {x : Operand} {ao : Option Addr} {n c : Nat} (hx : a.eval x = .slice ao n c)
    (hg : Region.wanted { dst := dst, op := .call { callee := .builtin .cap, args := #[x], argTypes := #[t] }, type := ty, pos := pos, after := after, guard := guard } (yielded ops a.tmps) = true)
    (h : wpQuiet P ops C K rest (a.put dst (.int .i64 c))) : wpQuiet P ops C K ({ dst := dst, op := .call { callee := .builtin .cap, args := #[x], argTypes := #[t] }, type := ty, pos := pos, after := after, guard := guard } :: rest) a :=
  wpQuiet_ex hg (fun w _ => ex_cap (ρ := a.eval) ht hx w) h
theorem wpL_copyNone {t e t2 : TypeId} {x y : Operand} {d s : Option Addr} {n cap m cap2 : Nat} (ht : P.underlying t = some (.slice e)) (hs : (P.info? e).map (·.size) = some 1) (hx : a.eval x = .slice d n cap) (hy : a.eval y = .slice s m cap2) (h0 : Nat.min m n = 0)
    (hg : Region.wanted { dst := dst, op := .call { callee := .builtin .copy, args := #[x, y], argTypes := #[t, t2] }, type := ty, pos := pos, after := after, guard := guard } (yielded ops a.tmps) = true)
    (h : wpList P ops Q rest (a.put dst (.int .i64 0)) w) : wpList P ops Q ({ dst := dst, op := .call { callee := .builtin .copy, args := #[x, y], argTypes := #[t, t2] }, type := ty, pos := pos, after := after, guard := guard } :: rest) a w := by
  have hr := run_copy_none (P := P) w t t2 ty e d s n cap m cap2 ht hs h0
  refine wpList_ex hg (v := .int .i64 0) ?_ h
  rw [BigFrame.execOp_builtin, BigFrame.builtin_copy]
  simp only [List.map_toArray, List.map_cons, List.map_nil, hx, hy, Sem.run_bind, hr, Result.andThen_ok, Sem.run_pure]
  rfl
end
/-- A new slice of bytes that nobody has told. -/
def Asr.room (base n : Nat) : Asr := ⟨fun v w => ∃ (g : Nat) (cs : Array Value), v = .slice (some ⟨g, 0, none⟩) n cs.size ∧ w.heap[g]? = some (.cells cs 5) ∧ base ≤ g ∧ n ≤ cs.size ∧ cs.size ≤ maxLen, fun v w w' ⟨g, cs, h1, h2, h3⟩ hb => ⟨g, cs, h1, (hb.block g (Array.getElem?_eq_some_iff.1 h2).1).trans h2, h3⟩⟩
theorem room_row {w : World} {base n : Nat} {v : Value} (h : (Asr.room base n).p v w) : ∃ (g c : Nat), v = .slice (some ⟨g, 0, none⟩) n c ∧ w.ownsRow base 5 1 (.slice (some ⟨g, 0, none⟩) 0 c) 0 [] := by
  obtain ⟨g, cs, h1, h2, h3, h4, h5⟩ := h
  exact ⟨g, cs.size, h1, rfl, .inr ⟨g, cs.size, cs, rfl, h3, h2, Nat.zero_le _, h5, by simp, by simp⟩⟩
theorem op_makeNoZero {w : World} {base n : Nat} {a : Act} {d : Tmp} {ty : TypeId} {pos : String} {after : Array Edge} {guard : Option (Nat × Bool)} {x : Operand} {ats : Array TypeId} (hx : a.eval x = .int .i64 n) (hn : n ≤ 1000000) (hb : base ≤ w.heap.size) :
    OpOK Try.prog { dst := some d, op := .call { callee := .value (.func 61), args := #[x], argTypes := ats }, type := ty, pos := pos, after := after, guard := guard } a w (fun v w' => Below w.heap.size w w' ∧ (Asr.room base n).p (slotD { dst := some d, op := .call { callee := .value (.func 61), args := #[x], argTypes := ats }, type := ty, pos := pos, after := after, guard := guard } v) w') := by
  obtain ⟨cs, hr, h1, h2⟩ := Lib.run_makeNoZero (P := Try.prog) w #[3] 81 5 Try.underlying81 n (by omega)
  refine op_new rfl (v := .slice (some ⟨w.heap.size, 0, none⟩) n cs.size) (w' := w.drew.drew.alloc (.cells cs 5)) ?_ (((below_drew w).trans (below_drew w.drew)).trans (below_alloc w.drew.drew _)) ⟨w.heap.size, cs, rfl, heap_alloc_new w.drew.drew _, hb, h1, h2 (by unfold maxLen; omega)⟩
  rw [execOp_call_go]
  simp only [List.map_toArray, List.map_cons, List.map_nil, hx]
  rw [run_callFunc_extern Try.func61 (by kernel_rfl) (by kernel_rfl) (by kernel_rfl) (e := Extern.BytealgMakeNoZero.makeNoZero #[3] #[81]) (by kernel_rfl)]
  show ((Extern.BytealgMakeNoZero.makeNoZero #[3] #[81] #[.int .i64 n]).run Try.prog w).andThen _ = _
  rw [hr]
  rfl
set_option maxRecDepth 100000 in
set_option maxHeartbeats 2000000 in
theorem grow_own (w0 w : World) (S : List Nat) (b n : Nat) (p : Value) (bs : List (Nat × Obj)) (rows : List Row) (hn : n ≤ 100000)
    (h : Holds w0 S ((b, objC [p, .slice none 0 0] 87) :: bs) rows w) :
    Calls Try.prog 57 #[selfP b, .int .i64 n] w (fun e w' => e = .returned (.tuple #[]) ∧ ∃ ao2 cap2, Holds w0 S ((b, objC [p, .slice ao2 0 cap2] 87) :: bs) (rowB ao2 cap2 [] :: rows) w') := by
  have HH := hid h
  clear h
  unfold selfP
  go_enter Try.func57, Try.ntmps57
  go_wp2
  refine wp_region_R [Asr.is (.pointer (some ⟨b, 0, none⟩)), Asr.is (.pointer (some ⟨b, 0, none⟩)), Asr.is (.pointer (some ⟨b, 0 + 1, none⟩)), Asr.is (.slice none 0 0), Asr.is (.int .i64 ((0 : Nat) : Int)), Asr.is (.int .i64 0), Asr.is (.int .i64 n), Asr.is (.int .i64 n), Asr.room w.heap.size n, Asr.is (.pointer (some ⟨b, 0, none⟩)), Asr.is (.pointer (some ⟨b, 0, none⟩)), Asr.is (.pointer (some ⟨b, 0 + 1, none⟩)), Asr.is (.slice none 0 0), Asr.is (.int .i64 ((0 : Nat) : Int)), Asr.row w.heap.size 5 1 0 [], Asr.row w.heap.size 5 1 0 []] HH.out (by kernel_rfl) (by kernel_rfl) rfl ?_ ?_
  · refine eachD_cons ?_ (eachD_cons ?_ (eachD_cons ?_ (eachD_cons ?_ (eachD_cons ?_ (eachD_cons ?_ (eachD_cons ?_ (eachD_cons ?_ (eachD_cons ?_ (eachD_cons ?_ (eachD_cons ?_ (eachD_cons ?_ (eachD_cons ?_ (eachD_cons ?_ (eachD_cons ?_ (eachD_cons ?_ (eachD_nil))))))))))))))))
    · intro a_ w1 hI hF hS
      have e0 : a_.eval (.tmp 0) = (.pointer (some ⟨b, 0, none⟩)) := (hF.2.2 0 (notDst_of (by kernel_rfl))).trans rfl
      refine wantD (by rfl) ?_
      exact op_val rfl (ex_move rfl w1) e0
    · intro a_ w1 hI hF hS
      have e5 : a_.eval (.tmp 5) = (.pointer (some ⟨b, 0, none⟩)) := hS ⟨0, .data⟩ (by simp) rfl _ rfl
      refine wantD (by rfl) ?_
      exact op_val rfl (ex_nilCheck e5 w1) rfl
    · intro a_ w1 hI hF hS
      have e6 : a_.eval (.tmp 6) = (.pointer (some ⟨b, 0, none⟩)) := hS ⟨1, .data⟩ (by simp) rfl _ rfl
      refine wantD (by rfl) ?_
      exact op_val rfl (ex_fieldAddr kF87_1 e6 w1) rfl
    · intro a_ w1 hI hF hS
      have e7 : a_.eval (.tmp 7) = (.pointer (some ⟨b, 0 + 1, none⟩)) := hS ⟨2, .data⟩ (by simp) rfl _ rfl
      refine wantD (by rfl) ?_
      exact op_val rfl (ex_load1 kO81 hI.1 e7 (by exact .here) rfl) rfl
    · intro a_ w1 hI hF hS
      have e8 : a_.eval (.tmp 8) = (.slice none 0 0) := hS ⟨3, .data⟩ (by simp) rfl _ rfl
      refine wantD (by rfl) ?_
      exact op_val rfl (ex_cap Try.underlying81 e8 w1) rfl
    · intro a_ w1 hI hF hS
      have e9 : a_.eval (.tmp 9) = (.int .i64 ((0 : Nat) : Int)) := hS ⟨4, .data⟩ (by simp) rfl _ rfl
      refine wantD (by rfl) ?_
      exact op_val rfl (ex_arith (op := .mul) (r := 0) rfl rfl e9 (by decide) w1) rfl
    · intro a_ w1 hI hF hS
      have e1 : a_.eval (.tmp 1) = (.int .i64 n) := (hF.2.2 1 (notDst_of (by kernel_rfl))).trans rfl
      refine wantD (by rfl) ?_
      exact op_val rfl (ex_move rfl w1) e1
    · intro a_ w1 hI hF hS
      have e10 : a_.eval (.tmp 10) = (.int .i64 0) := hS ⟨5, .data⟩ (by simp) rfl _ rfl
      have e11 : a_.eval (.tmp 11) = (.int .i64 n) := hS ⟨6, .data⟩ (by simp) rfl _ rfl
      refine wantD (by rfl) ?_
      exact op_val rfl (ex_arith (op := .add) (r := (n : Int)) rfl e10 e11 (by show IntKind.i64.wrap (0 + (n : Int)) = _; rw [Int.zero_add]; exact IntWalk.i64_in _ (by omega)) w1) rfl
    · intro a_ w1 hI hF hS
      have e12 : a_.eval (.tmp 12) = (.int .i64 n) := hS ⟨7, .data⟩ (by simp) rfl _ rfl
      refine wantD (by rfl) ?_
      exact op_makeNoZero e12 (by omega) hI.2.size
    · intro a_ w1 hI hF hS
      have e0 : a_.eval (.tmp 0) = (.pointer (some ⟨b, 0, none⟩)) := (hF.2.2 0 (notDst_of (by kernel_rfl))).trans rfl
      refine wantD (by rfl) ?_
      exact op_val rfl (ex_move rfl w1) e0
    · intro a_ w1 hI hF hS
      have e14 : a_.eval (.tmp 14) = (.pointer (some ⟨b, 0, none⟩)) := hS ⟨9, .data⟩ (by simp) rfl _ rfl
      refine wantD (by rfl) ?_
      exact op_val rfl (ex_nilCheck e14 w1) rfl
    · intro a_ w1 hI hF hS
      have e15 : a_.eval (.tmp 15) = (.pointer (some ⟨b, 0, none⟩)) := hS ⟨10, .data⟩ (by simp) rfl _ rfl
      refine wantD (by rfl) ?_
      exact op_val rfl (ex_fieldAddr kF87_1 e15 w1) rfl
    · intro a_ w1 hI hF hS
      have e16 : a_.eval (.tmp 16) = (.pointer (some ⟨b, 0 + 1, none⟩)) := hS ⟨11, .data⟩ (by simp) rfl _ rfl
      refine wantD (by rfl) ?_
      exact op_val rfl (ex_load1 kO81 hI.1 e16 (by exact .here) rfl) rfl
    · intro a_ w1 hI hF hS
      have e17 : a_.eval (.tmp 17) = (.slice none 0 0) := hS ⟨12, .data⟩ (by simp) rfl _ rfl
      refine wantD (by rfl) ?_
      exact op_val rfl (ex_len Try.underlying81 e17 w1) rfl
    · intro a_ w1 hI hF hS
      have e13 : (Asr.room w.heap.size n).p (a_.eval (.tmp 13)) w1 := hS ⟨8, .data⟩ (by simp) rfl _ rfl
      have e18 : a_.eval (.tmp 18) = (.int .i64 ((0 : Nat) : Int)) := hS ⟨13, .data⟩ (by simp) rfl _ rfl
      refine wantD (by rfl) ?_
      obtain ⟨g_, c_, hv_, hrow_⟩ := room_row e13; exact op_val rfl (ex_slice_to kE81 hv_ e18 rfl (Nat.zero_le _) w1) hrow_
    · intro a_ w1 hI hF hS
      have e19 : (Asr.row w.heap.size 5 1 0 []).p (a_.eval (.tmp 19)) w1 := hS ⟨14, .data⟩ (by simp) rfl _ rfl
      refine wantD (by rfl) ?_
      exact op_val rfl (ex_assign rfl w1) e19
  intro wq hq_ hb_
  intro v0_ h0_ v1_ h1_ v2_ h2_ v3_ h3_ v4_ h4_ v5_ h5_ v6_ h6_ v7_ h7_ v8_ h8_ v9_ h9_ v10_ h10_ v11_ h11_ v12_ h12_ v13_ h13_ v14_ h14_ v15_ h15_
  have q_ : v0_ = (.pointer (some ⟨b, 0, none⟩)) := h0_; clear h0_; subst q_
  have q_ : v1_ = (.pointer (some ⟨b, 0, none⟩)) := h1_; clear h1_; subst q_
  have q_ : v2_ = (.pointer (some ⟨b, 0 + 1, none⟩)) := h2_; clear h2_; subst q_
  have q_ : v3_ = (.slice none 0 0) := h3_; clear h3_; subst q_
  have q_ : v4_ = (.int .i64 ((0 : Nat) : Int)) := h4_; clear h4_; subst q_
  have q_ : v5_ = (.int .i64 0) := h5_; clear h5_; subst q_
  have q_ : v6_ = (.int .i64 n) := h6_; clear h6_; subst q_
  have q_ : v7_ = (.int .i64 n) := h7_; clear h7_; subst q_
  have K8 := hid h8_; clear h8_
  have q_ : v9_ = (.pointer (some ⟨b, 0, none⟩)) := h9_; clear h9_; subst q_
  have q_ : v10_ = (.pointer (some ⟨b, 0, none⟩)) := h10_; clear h10_; subst q_
  have q_ : v11_ = (.pointer (some ⟨b, 0 + 1, none⟩)) := h11_; clear h11_; subst q_
  have q_ : v12_ = (.slice none 0 0) := h12_; clear h12_; subst q_
  have q_ : v13_ = (.int .i64 ((0 : Nat) : Int)) := h13_; clear h13_; subst q_
  have K14 := hid h14_; clear h14_
  have K15 := hid h15_; clear h15_
  simp only [endD, putsD, Act.put, List.setIfInBounds_toArray, List.set_cons_succ, List.set_cons_zero]
  have HQ := hid hq_; clear hq_
  have HB_ := hid hb_; clear hb_
  obtain ⟨a2, c2, rfl⟩ := row_shape K15.out
  have HA : Hid (Holds w0 S ((b, objC [p, .slice none 0 0] 87) :: bs) (rowB a2 c2 [] :: rows) wq) := hid (HH.out.addRow HB_.out K15.out)
  clear HH K15 K14 K8 HQ HB_
  have HH := HA
  clear HA
  go_wp2_with (first
    | ((first
        | ((with_reducible apply wpL_skip); rfl; skip)
        | ((with_reducible apply wpL_copyNone Try.underlying81 kS5); rfl; rfl; rfl; rfl)
        | ((with_reducible apply wpL_nilCheck); rfl; rfl)
        | ((with_reducible apply wpL_fieldAddr); (first | exact kF87_1); rfl; rfl)
        | ((with_reducible apply wpL_load1 (t := 81) kO81 HH.out); rfl; (first | exact .here | exact .there .here | exact .there (.there .here) | exact .there (.there (.there .here)) | exact .there (.there (.there (.there .here))) | exact .there (.there (.there (.there (.there .here)))) | exact .there (.there (.there (.there (.there (.there .here))))) | exact .there (.there (.there (.there (.there (.there (.there .here))))))); rfl; rfl)
        | ((with_reducible apply wpL_len (t := 81) Try.underlying81); rfl; rfl)
        | ((with_reducible apply wpL_store1 (t := 81)); rfl; rfl; rfl; (exact kS81); (exact HH.out); (first | exact .here | exact .there .here | exact .there (.there .here) | exact .there (.there (.there .here)) | exact .there (.there (.there (.there .here))) | exact .there (.there (.there (.there (.there .here)))) | exact .there (.there (.there (.there (.there (.there .here))))) | exact .there (.there (.there (.there (.there (.there (.there .here))))))); rfl; (first | exact Nat.le_of_ble_eq_true rfl | (simp; done) | omega); rfl; (intro w_ hq_; (try simp only [List.set_cons_zero, List.set_cons_succ] at hq_); clear HH; have HH := hid hq_; clear hq_))
        | ((with_reducible apply wpL_move); rfl; rfl)
        | ((with_reducible apply wpL_assign); rfl; rfl)
        | ((with_reducible apply wpL_pick); rfl; rfl; rfl)
        | ((with_reducible apply wpL_not); rfl; rfl)
        | ((with_reducible apply wpL_cmp (b := true)); rfl; rfl; rfl; (first | rfl | assumption | (simp only [cmpB, decide_eq_true_eq, decide_eq_false_iff_not, beq_iff_eq, bne_iff_ne, ne_eq, beq_eq_false_iff_ne, bne_eq_false_iff_eq, gt_iff_lt, ge_iff_le]; omega) | (simp; omega)); rfl)
        | ((with_reducible apply wpL_cmp (b := false)); rfl; rfl; rfl; (first | rfl | assumption | (simp only [cmpB, decide_eq_true_eq, decide_eq_false_iff_not, beq_iff_eq, bne_iff_ne, ne_eq, beq_eq_false_iff_ne, bne_eq_false_iff_eq, gt_iff_lt, ge_iff_le]; omega) | (simp; omega)); rfl)
        | ((with_reducible apply wpL_cmp); rfl; rfl; rfl; rfl; rfl)
        | ((with_reducible apply wpL_arith); rfl; rfl; rfl; (exact IntWalk.i64_in _ (by (try simp only [arithI]); omega)); rfl)); (try simp only [arithI, Act.put, Act.eval, List.setIfInBounds_toArray, List.set_cons_succ, List.set_cons_zero, Array.getD_eq_getD_getElem?, List.getElem?_toArray, List.getElem?_cons_succ, List.getElem?_cons_zero, Option.getD_some])))
  refine bodyPost_end (results_none rfl _ _ _) rfl ⟨rfl, _, _, HH.out⟩
end Go.Proofs.Ytohdkmgnnncpkaa
