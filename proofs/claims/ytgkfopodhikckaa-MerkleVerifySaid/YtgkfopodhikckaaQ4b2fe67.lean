/- The row MerkleVerify. No condition. -/
import Derived.Test.YtgkfopodhikckaaQ6ffec46
set_option linter.unusedSimpArgs false
set_option linter.unusedVariables false
/- The law MerkleVerify. Condition: at most 64 leaves, a path of at most 20 nodes. -/
namespace Go.Proofs.Ytgkfopodhikckaa
open Go.RowKit
attribute [local irreducible] wpQuiet wpList
section
variable {P : Program} {w0 w : World} {S : List Nat} {bs : List (Nat × Obj)} {ρ : Operand → Value} {dst : Option Tmp} {ty : TypeId} {pos : String} {after : Array Edge} {guard : Option (Nat × Bool)}
theorem row_base {w : World} {b b' : Nat} {e : TypeId} {sz n : Nat} {v : Value} {xs : List Value} (h : w.ownsRow b e sz v n xs) (hb : b' ≤ b) : w.ownsRow b' e sz v n xs := by
  refine ⟨h.1, ?_⟩
  rcases h.2 with hn | ⟨g, cap, cur, hv, hg, rest⟩
  · exact .inl hn
  · exact .inr ⟨g, cap, cur, hv, Nat.le_trans hb hg, rest⟩
theorem ex_extract {x : Operand} {vs : Array Value} {i : Nat} {v : Value} (hx : ρ x = .tuple vs) (hv : vs[i]? = some v) (w : World) :
    (execOp ρ { dst := dst, op := .extract x i, type := ty, pos := pos, after := after, guard := guard }).run P w = .ok (.value v) w := by
  simp [execOp, hx, hv, Instr.extract]
theorem ex_eqBool {t yt : TypeId} {b c r : Bool} {x y : Operand} (ht : P.underlying t = some .bool) (hx : ρ x = .bool b) (hy : ρ y = .bool c) (hr : (b == c) = r) (w : World) :
    (execOp ρ { dst := dst, op := .binOp .eql t x y yt, type := ty, pos := pos, after := after, guard := guard }).run P w = .ok (.value (.bool r)) w := by
  subst hr
  have he : ∀ u v w, (eqGuard .eql t x y (.bool u) (.bool v)).run P w = .ok () w := fun _ _ _ => by simp [eqGuard]
  simp only [execOp, hx, hy, Sem.run_bind, he, Result.andThen_ok, run_eql_bool w t b c ht, Sem.run_pure]
/-- A row that a call in the region makes. -/
def optR (b : Bool) (r : Row) (l : List Row) : List Row := match b with | true => r :: l | false => l
def rowsO (ir sr : Nat) (e : TypeId) (sz n : Nat) (xs : List Value) (base : List Row) : (Nat → Bool) → (Nat → Value) → List Row := fun l s => optR (l ir) ⟨s sr, e, sz, n, xs⟩ base
variable {rows : (Nat → Bool) → (Nat → Value) → List Row} {ia is_ sl : Nat} {e : TypeId} {zs vs : List Value} {l : Nat → Bool} {s : Nat → Value}
theorem AJ.grow {w' : World} (hJ : AJ w0 S bs rows ia is_ sl e zs vs l s w) (hb : Below w.heap.size w w') : AJ w0 S bs rows ia is_ sl e zs vs l s w' := Holds.grow hJ hb
theorem AJ.addRow {w' : World} {ir sr : Nat} {E : TypeId} {sz n : Nat} {xs : List Value} {base : List Row} {v : Value} (hJ : AJ w0 S bs (rowsO ir sr E sz n xs base) ia is_ sl e zs vs l s w) (hi : l ir = false) (h1 : ia ≠ ir) (h2 : is_ ≠ ir) (h3 : sl ≠ sr)
    (hb : Below w.heap.size w w') (hr : w'.ownsRow w.heap.size E sz v n xs) : AJ w0 S bs (rowsO ir sr E sz n xs base) ia is_ sl e zs vs (upd l ir) (updS s sr v) w' := by
  unfold AJ rowsO at *
  rw [hi] at hJ
  have h := Holds.addRow (show Holds w0 S _ base w from hJ) hb hr
  rw [show upd l ir ia = l ia by simp [upd, h1], show upd l ir is_ = l is_ by simp [upd, h2], show upd l ir ir = true by simp [upd], show updS s sr v sl = s sl by simp [updS, h3], show updS s sr v sr = v by simp [updS]]
  exact h
theorem AJ.slRow {ir sr : Nat} {E : TypeId} {sz n : Nat} {xs : List Value} {base : List Row} (hJ : AJ w0 S bs (rowsO ir sr E sz n xs base) ia is_ sl e zs vs l s w) (hi : l ir = true) : Sl w (s sr) sz n xs := by
  unfold AJ rowsO at hJ
  rw [hi] at hJ
  exact Holds.sl0 (rows := base) hJ
theorem opF_call {f : FuncId} (hf : Body P f) {a : Act} {d : Tmp} {xs : Array Operand} {ats : Array TypeId} {args : Array Value} {J : (Nat → Value) → World → Prop} {A : Value → Prop} (ha : (xs.toList.map a.eval).toArray = args)
    (hc : Calls P f args w fun e w' => ∃ v, e = .returned v ∧ J (updS (slF a) d v) w' ∧ A v) :
    OpOK P { dst := some d, op := .call { callee := .value (.func f), args := xs, argTypes := ats }, type := ty, pos := pos, after := after, guard := guard } a w (fun v w' => J (stepS { dst := some d, op := .call { callee := .value (.func f), args := xs, argTypes := ats }, type := ty, pos := pos, after := after, guard := guard } (slF a) v) w' ∧ A (slotD { dst := some d, op := .call { callee := .value (.func f), args := xs, argTypes := ats }, type := ty, pos := pos, after := after, guard := guard } v)) := by
  unfold OpOK
  rw [ex_call hf (args := args) (by rw [← ha, ← Array.toList_map, Array.toArray_toList]) w]
  exact hc
end
theorem claim_len (i : Int) (x : Nd) (v : Value) : (claimCs i x v).length = 18 := by simp [claimCs, Arr.len]
theorem claim_leaf (i : Int) (x : Nd) (v : Value) : ((claimCs i x v).drop (0 + 1)).take 16 = x.cells := by
  rw [Nat.zero_add, claimCs, List.drop_succ_cons, List.drop_zero, List.take_left' (Arr.len x)]
theorem claim_path (i : Int) (x : Nd) (v : Value) : (claimCs i x v)[0 + 17]? = some v := by
  rw [Nat.zero_add, claimCs, List.getElem?_cons_succ, List.getElem?_append_right (by rw [Arr.len]; exact Nat.le_refl _), Arr.len]; rfl
def VerRel (w : World) (i : Int) (x r : Nd) (u : Value) (l : List Nd) (g3 g5 g9 : Nat) (ao1 : Option Addr) (cap1 : Nat) (kv : Value) (wr : World) : Prop :=
  ∃ k : Nat, k ≤ l.length ∧ kv = .int .i64 k ∧ Holds w [] [(g9, objC r.cells 34), (g5, objC x.cells 41), (g3, objC (claimCs i x u) 79)] [rowA 34 ao1 cap1 l] wr
set_option maxRecDepth 100000 in
set_option maxHeartbeats 8000000 in
theorem law_verify (w : World) (v : Value) (l : List Nd) (i : Int) (x : Nd) (u : Value) (p : List Nd) (hl : Arrs w v l) (hu : Arrs w u p) : Calls Try.prog 16 #[v, .agg (claimCs i x u).toArray] w (RetB w true) := by
  obtain ⟨ao, cap, rfl, _⟩ := hl.shape
  obtain ⟨ap, cp, rfl, _⟩ := hu.shape
  have HL := hid hl
  have HP := hid hu
  clear hl hu
  have HH := hid (Holds.init w)
  go_enter Try.func16, Try.ntmps16
  go_wp2_with (first
    | ((first
        | ((with_reducible apply wpL_skip); rfl; skip)
        | ((with_reducible apply wpL_nilCheck); rfl; rfl)
        | ((with_reducible apply wpL_fieldAddr); (first | exact kF79_0 | exact kF79_1 | exact kF79_2); rfl; rfl)
        | ((with_reducible apply wpL_load1 (t := 3) kO3 HH.out); rfl; (first | exact .here | exact .there .here | exact .there (.there .here) | exact .there (.there (.there .here)) | exact .there (.there (.there (.there .here))) | exact .there (.there (.there (.there (.there .here)))) | exact .there (.there (.there (.there (.there (.there .here))))) | exact .there (.there (.there (.there (.there (.there (.there .here))))))); rfl; rfl)
        | ((with_reducible apply wpL_load1 (t := 30) kO30 HH.out); rfl; (first | exact .here | exact .there .here | exact .there (.there .here) | exact .there (.there (.there .here)) | exact .there (.there (.there (.there .here))) | exact .there (.there (.there (.there (.there .here)))) | exact .there (.there (.there (.there (.there (.there .here))))) | exact .there (.there (.there (.there (.there (.there (.there .here))))))); rfl; rfl)
        | ((with_reducible apply wpL_loadArr (t := 34) kA34 HH.out); rfl; (first | exact .here | exact .there .here | exact .there (.there .here) | exact .there (.there (.there .here)) | exact .there (.there (.there (.there .here))) | exact .there (.there (.there (.there (.there .here)))) | exact .there (.there (.there (.there (.there (.there .here))))) | exact .there (.there (.there (.there (.there (.there (.there .here))))))); rfl)
        | ((with_reducible apply wpL_loadC (t := 34) kA34 HH.out); rfl; (first | exact .here | exact .there .here | exact .there (.there .here) | exact .there (.there (.there .here)) | exact .there (.there (.there (.there .here))) | exact .there (.there (.there (.there (.there .here)))) | exact .there (.there (.there (.there (.there (.there .here))))) | exact .there (.there (.there (.there (.there (.there (.there .here))))))); (first | rfl | exact Arr.len _ | (simp; done)); rfl)
        | ((with_reducible apply wpL_loadArr (t := 41) kA41 HH.out); rfl; (first | exact .here | exact .there .here | exact .there (.there .here) | exact .there (.there (.there .here)) | exact .there (.there (.there (.there .here))) | exact .there (.there (.there (.there (.there .here)))) | exact .there (.there (.there (.there (.there (.there .here))))) | exact .there (.there (.there (.there (.there (.there (.there .here))))))); rfl)
        | ((with_reducible apply wpL_loadC (t := 41) kA41 HH.out); rfl; (first | exact .here | exact .there .here | exact .there (.there .here) | exact .there (.there (.there .here)) | exact .there (.there (.there (.there .here))) | exact .there (.there (.there (.there (.there .here)))) | exact .there (.there (.there (.there (.there (.there .here))))) | exact .there (.there (.there (.there (.there (.there (.there .here))))))); (first | rfl | exact Arr.len _ | (simp; done)); rfl)
        | ((with_reducible apply wpL_len (t := 30) Try.underlying30); rfl; rfl)
        | ((with_reducible apply wpL_len (t := 46) Try.underlying46); rfl; rfl)
        | ((with_reducible apply wpL_boxC (dst := some 3)); rfl; (exact HH.out); rfl; (intro g3_ w_ hq_; (try simp only [List.set_cons_zero, List.set_cons_succ] at hq_); clear HH; have HH := hid hq_; clear hq_))
        | ((with_reducible apply wpL_allocC (dst := some 5) kZ41 HH.out); rfl; (intro g5_ w_ hq_; (try simp only [List.set_cons_zero, List.set_cons_succ] at hq_); clear HH; have HH := hid hq_; clear hq_))
        | ((with_reducible apply wpL_allocC (dst := some 9) kZ34 HH.out); rfl; (intro g9_ w_ hq_; (try simp only [List.set_cons_zero, List.set_cons_succ] at hq_); clear HH; have HH := hid hq_; clear hq_))
        | ((with_reducible apply wpL_allocC (dst := some 14) kZ34 HH.out); rfl; (intro g14_ w_ hq_; (try simp only [List.set_cons_zero, List.set_cons_succ] at hq_); clear HH; have HH := hid hq_; clear hq_))
        | ((with_reducible apply wpL_allocC (dst := some 17) kZ41 HH.out); rfl; (intro g17_ w_ hq_; (try simp only [List.set_cons_zero, List.set_cons_succ] at hq_); clear HH; have HH := hid hq_; clear hq_))
        | ((with_reducible apply wpL_storeArr (t := 34) kS34 HH.out); rfl; rfl; (first | exact .here | exact .there .here | exact .there (.there .here) | exact .there (.there (.there .here)) | exact .there (.there (.there (.there .here))) | exact .there (.there (.there (.there (.there .here)))) | exact .there (.there (.there (.there (.there (.there .here))))) | exact .there (.there (.there (.there (.there (.there (.there .here))))))); (first | rfl | exact Arr.len _ | (simp; done)); rfl; (intro w_ hq_; (try simp only [List.set_cons_zero, List.set_cons_succ] at hq_); clear HH; have HH := hid hq_; clear hq_))
        | ((with_reducible apply wpL_storeC (t := 34)); rfl; rfl; (exact kS34); (exact HH.out); (first | exact .here | exact .there .here | exact .there (.there .here) | exact .there (.there (.there .here)) | exact .there (.there (.there (.there .here))) | exact .there (.there (.there (.there (.there .here)))) | exact .there (.there (.there (.there (.there (.there .here))))) | exact .there (.there (.there (.there (.there (.there (.there .here))))))); (first | rfl | exact Arr.len _ | (simp; done)); (first | rfl | (intro u_ hu_; simp only [List.mem_cons, List.not_mem_nil, or_false] at hu_; rcases hu_ with rfl | hu_; rfl) | exact byt_cell1 _ | exact cells_one _ | exact wrd_one _ | exact flat_cell1 _); (first | rfl | exact Arr.len _ | (simp; done)); rfl; (intro w_ hq_; (try simp only [List.set_cons_zero, List.set_cons_succ] at hq_); clear HH; have HH := hid hq_; clear hq_))
        | ((with_reducible apply wpL_storeArr (t := 41) kS41 HH.out); rfl; rfl; (first | exact .here | exact .there .here | exact .there (.there .here) | exact .there (.there (.there .here)) | exact .there (.there (.there (.there .here))) | exact .there (.there (.there (.there (.there .here)))) | exact .there (.there (.there (.there (.there (.there .here))))) | exact .there (.there (.there (.there (.there (.there (.there .here))))))); (first | rfl | exact Arr.len _ | (simp; done)); rfl; (intro w_ hq_; (try simp only [List.set_cons_zero, List.set_cons_succ] at hq_); clear HH; have HH := hid hq_; clear hq_))
        | ((with_reducible apply wpL_storeC (t := 41)); rfl; rfl; (exact kS41); (exact HH.out); (first | exact .here | exact .there .here | exact .there (.there .here) | exact .there (.there (.there .here)) | exact .there (.there (.there (.there .here))) | exact .there (.there (.there (.there (.there .here)))) | exact .there (.there (.there (.there (.there (.there .here))))) | exact .there (.there (.there (.there (.there (.there (.there .here))))))); (first | rfl | exact Arr.len _ | (simp; done)); (first | rfl | (intro u_ hu_; simp only [List.mem_cons, List.not_mem_nil, or_false] at hu_; rcases hu_ with rfl | hu_; rfl) | exact byt_cell1 _ | exact cells_one _ | exact wrd_one _ | exact flat_cell1 _); (first | rfl | exact Arr.len _ | (simp; done)); rfl; (intro w_ hq_; (try simp only [List.set_cons_zero, List.set_cons_succ] at hq_); clear HH; have HH := hid hq_; clear hq_))
        | ((with_reducible apply wpL_move); rfl; rfl)
        | ((with_reducible apply wpL_assign); rfl; rfl)
        | ((with_reducible apply wpL_pick); rfl; rfl; rfl)
        | ((with_reducible apply wpL_not); rfl; rfl)
        | ((with_reducible apply wpL_cmp (b := true)); rfl; rfl; rfl; (first | rfl | assumption | (simp only [cmpB, decide_eq_true_eq, decide_eq_false_iff_not, beq_iff_eq, bne_iff_ne, ne_eq, beq_eq_false_iff_ne, bne_eq_false_iff_eq, gt_iff_lt, ge_iff_le]; omega) | (simp; omega)); rfl)
        | ((with_reducible apply wpL_cmp (b := false)); rfl; rfl; rfl; (first | rfl | assumption | (simp only [cmpB, decide_eq_true_eq, decide_eq_false_iff_not, beq_iff_eq, bne_iff_ne, ne_eq, beq_eq_false_iff_ne, bne_eq_false_iff_eq, gt_iff_lt, ge_iff_le]; omega) | (simp; omega)); rfl)
        | ((with_reducible apply wpL_cmp); rfl; rfl; rfl; rfl; rfl)
        | ((with_reducible apply wpL_arith); rfl; rfl; rfl; (exact IntWalk.i64_in _ (by (try simp only [arithI]); omega)); rfl)); (try simp only [arithI, Act.put, Act.eval, List.setIfInBounds_toArray, List.set_cons_succ, List.set_cons_zero, Array.getD_eq_getD_getElem?, List.getElem?_toArray, List.getElem?_cons_succ, List.getElem?_cons_zero, Option.getD_some])))
  refine wp_region_F [(fun u_ => u_ = (.pointer (some ⟨g3_, 0 + 1, none⟩))), (fun u_ => u_ = x.val), (fun u_ => u_ = (.pointer (some ⟨g3_, 0 + 0, none⟩))), (fun u_ => u_ = (.int .i64 i)), (fun u_ => u_ = (.pointer (some ⟨g3_, 0 + 17, none⟩))), (fun u_ => u_ = (.slice ap p.length cp)), (isPtr), (fun _ => True), (fun u_ => u_ = (.int .i64 i)), (fun u_ => u_ = (.slice ap p.length cp))] (AJ w [] [(g3_, objC (claimCs i x (.slice ap p.length cp)) 79)] (fun _ _ => []) 6 7 5 41 (Arr.zero 16).cells x.cells) (by kernel_rfl) (by kernel_rfl) rfl (HH.out.drew) ?_ ?_
  · refine eachD_cons ?_ (eachD_cons ?_ (eachD_cons ?_ (eachD_cons ?_ (eachD_cons ?_ (eachD_cons ?_ (eachD_cons ?_ (eachD_cons ?_ (eachD_cons ?_ (eachD_cons ?_ (eachD_nil))))))))))
    · intro li_ a_ w1 hc hi hJ hF hS
      have e3 : a_.eval (.tmp 3) = (.pointer (some ⟨g3_, 0, none⟩)) := (hF.2.2 3 (notDst_of (by kernel_rfl))).trans rfl
      refine wantD (by rfl) ?_
      exact opF_val rfl (ex_fieldAddr kF79_1 e3 w1) hJ rfl
    · intro li_ a_ w1 hc hi hJ hF hS
      have l0 : li_ 0 = true := (hS ⟨0, .data⟩ (by simp) rfl).1
      have e19 : a_.eval (.tmp 19) = (.pointer (some ⟨g3_, 0 + 1, none⟩)) := (hS ⟨0, .data⟩ (by simp) rfl).2 _ rfl
      refine wantD (by rfl) ?_
      exact opF_val rfl (ex_loadPart kA41 hJ e19 (Own.opt .here) (claim_leaf _ _ _) (Arr.len _)) hJ rfl
    · intro li_ a_ w1 hc hi hJ hF hS
      have e3 : a_.eval (.tmp 3) = (.pointer (some ⟨g3_, 0, none⟩)) := (hF.2.2 3 (notDst_of (by kernel_rfl))).trans rfl
      refine wantD (by rfl) ?_
      exact opF_val rfl (ex_fieldAddr kF79_0 e3 w1) hJ rfl
    · intro li_ a_ w1 hc hi hJ hF hS
      have l2 : li_ 2 = true := (hS ⟨2, .data⟩ (by simp) rfl).1
      have e21 : a_.eval (.tmp 21) = (.pointer (some ⟨g3_, 0 + 0, none⟩)) := (hS ⟨2, .data⟩ (by simp) rfl).2 _ rfl
      refine wantD (by rfl) ?_
      exact opF_val rfl (ex_load1 kO3 hJ e21 (Own.opt .here) rfl) hJ rfl
    · intro li_ a_ w1 hc hi hJ hF hS
      have e3 : a_.eval (.tmp 3) = (.pointer (some ⟨g3_, 0, none⟩)) := (hF.2.2 3 (notDst_of (by kernel_rfl))).trans rfl
      refine wantD (by rfl) ?_
      exact opF_val rfl (ex_fieldAddr kF79_2 e3 w1) hJ rfl
    · intro li_ a_ w1 hc hi hJ hF hS
      have l4 : li_ 4 = true := (hS ⟨4, .data⟩ (by simp) rfl).1
      have e23 : a_.eval (.tmp 23) = (.pointer (some ⟨g3_, 0 + 17, none⟩)) := (hS ⟨4, .data⟩ (by simp) rfl).2 _ rfl
      refine wantD (by rfl) ?_
      exact opF_val rfl (ex_load1 kO30 hJ e23 (Own.opt .here) (claim_path _ _ _)) hJ rfl
    · intro li_ a_ w1 hc hi hJ hF hS
      refine wantD (by rfl) ?_
      exact aj_alloc kZ41 hJ hi (hc.off (j := 7) (by kernel_rfl) hi) (by decide) (fun _ => rfl)
    · intro li_ a_ w1 hc hi hJ hF hS
      have l6 : li_ 6 = true := (hS ⟨6, .data⟩ (by simp) rfl).1
      have l1 : li_ 1 = true := (hS ⟨1, .data⟩ (by simp) rfl).1
      have l0 : li_ 0 = true := (hS ⟨0, .phase⟩ (by simp) rfl).1
      have e5 : (isPtr) (a_.eval (.tmp 5)) := (hS ⟨6, .data⟩ (by simp) rfl).2 _ rfl
      have e20 : a_.eval (.tmp 20) = x.val := (hS ⟨1, .data⟩ (by simp) rfl).2 _ rfl
      refine wantD (by rfl) ?_
      exact aj_store kS41 (Arr.len _) (Arr.len _) (cells_one _) hJ l6 hi (by decide) e5 e20 rfl
    · intro li_ a_ w1 hc hi hJ hF hS
      have l3 : li_ 3 = true := (hS ⟨3, .data⟩ (by simp) rfl).1
      have l7 : li_ 7 = true := (hS ⟨7, .chain⟩ (by simp) rfl).1
      have l0 : li_ 0 = true := (hS ⟨0, .phase⟩ (by simp) rfl).1
      have l1 : li_ 1 = true := (hS ⟨1, .phase⟩ (by simp) rfl).1
      have l2 : li_ 2 = true := (hS ⟨2, .phase⟩ (by simp) rfl).1
      have l6 : li_ 6 = true := (hS ⟨6, .phase⟩ (by simp) rfl).1
      have e22 : a_.eval (.tmp 22) = (.int .i64 i) := (hS ⟨3, .data⟩ (by simp) rfl).2 _ rfl
      refine wantD (by rfl) ?_
      exact opF_val rfl (ex_assign rfl w1) hJ e22
    · intro li_ a_ w1 hc hi hJ hF hS
      have l5 : li_ 5 = true := (hS ⟨5, .data⟩ (by simp) rfl).1
      have l8 : li_ 8 = true := (hS ⟨8, .chain⟩ (by simp) rfl).1
      have l0 : li_ 0 = true := (hS ⟨0, .phase⟩ (by simp) rfl).1
      have l1 : li_ 1 = true := (hS ⟨1, .phase⟩ (by simp) rfl).1
      have l2 : li_ 2 = true := (hS ⟨2, .phase⟩ (by simp) rfl).1
      have l3 : li_ 3 = true := (hS ⟨3, .phase⟩ (by simp) rfl).1
      have l4 : li_ 4 = true := (hS ⟨4, .phase⟩ (by simp) rfl).1
      have l6 : li_ 6 = true := (hS ⟨6, .phase⟩ (by simp) rfl).1
      have l7 : li_ 7 = true := (hS ⟨7, .phase⟩ (by simp) rfl).1
      have e24 : a_.eval (.tmp 24) = (.slice ap p.length cp) := (hS ⟨5, .data⟩ (by simp) rfl).2 _ rfl
      refine wantD (by rfl) ?_
      exact opF_val rfl (ex_assign rfl w1) hJ e24
  intro v0_ h0_ v1_ h1_ v2_ h2_ v3_ h3_ v4_ h4_ v5_ h5_ v6_ h6_ v7_ h7_ v8_ h8_ v9_ h9_
  intro wq hq_
  have q_ : v0_ = (.pointer (some ⟨g3_, 0 + 1, none⟩)) := h0_; clear h0_; subst q_
  have q_ : v1_ = x.val := h1_; clear h1_; subst q_
  have q_ : v2_ = (.pointer (some ⟨g3_, 0 + 0, none⟩)) := h2_; clear h2_; subst q_
  have q_ : v3_ = (.int .i64 i) := h3_; clear h3_; subst q_
  have q_ : v4_ = (.pointer (some ⟨g3_, 0 + 17, none⟩)) := h4_; clear h4_; subst q_
  have q_ : v5_ = (.slice ap p.length cp) := h5_; clear h5_; subst q_
  obtain ⟨g5_, rfl⟩ := h6_
  clear h7_
  have q_ : v8_ = (.int .i64 i) := h8_; clear h8_; subst q_
  have q_ : v9_ = (.slice ap p.length cp) := h9_; clear h9_; subst q_
  have HQ := hid hq_; clear hq_
  simp only [putsD, Act.put, List.setIfInBounds_toArray, List.set_cons_succ, List.set_cons_zero]
  have hq2_ : Holds w [] [(g5_, objC x.cells 41), (g3_, objC (claimCs i x (.slice ap p.length cp)) 79)] [] wq := HQ.out
  clear HH HQ
  have HH := hid hq2_
  clear hq2_
  by_cases hn : 64 < l.length
  · skip
    go_wp2_with (first
      | ((first
          | ((with_reducible apply wpL_skip); rfl; skip)
          | (go_at_call 23; (first | ((have hcall_ := hid (knownM_any _)); (with_reducible refine hcall_.out.mono ?_); clear hcall_) | (with_reducible refine (knownM_any _).mono ?_)); rintro e_ w2_ ⟨rfl, hb_⟩; (have hq_ := HH.out.grow hb_); clear HH; have HH := hid hq_; clear hq_ hb_)
          | ((with_reducible apply wpL_nilCheck); rfl; rfl)
          | ((with_reducible apply wpL_fieldAddr); (first | exact kF79_0 | exact kF79_1 | exact kF79_2); rfl; rfl)
          | ((with_reducible apply wpL_load1 (t := 3) kO3 HH.out); rfl; (first | exact .here | exact .there .here | exact .there (.there .here) | exact .there (.there (.there .here)) | exact .there (.there (.there (.there .here))) | exact .there (.there (.there (.there (.there .here)))) | exact .there (.there (.there (.there (.there (.there .here))))) | exact .there (.there (.there (.there (.there (.there (.there .here))))))); rfl; rfl)
          | ((with_reducible apply wpL_load1 (t := 30) kO30 HH.out); rfl; (first | exact .here | exact .there .here | exact .there (.there .here) | exact .there (.there (.there .here)) | exact .there (.there (.there (.there .here))) | exact .there (.there (.there (.there (.there .here)))) | exact .there (.there (.there (.there (.there (.there .here))))) | exact .there (.there (.there (.there (.there (.there (.there .here))))))); rfl; rfl)
          | ((with_reducible apply wpL_loadArr (t := 34) kA34 HH.out); rfl; (first | exact .here | exact .there .here | exact .there (.there .here) | exact .there (.there (.there .here)) | exact .there (.there (.there (.there .here))) | exact .there (.there (.there (.there (.there .here)))) | exact .there (.there (.there (.there (.there (.there .here))))) | exact .there (.there (.there (.there (.there (.there (.there .here))))))); rfl)
          | ((with_reducible apply wpL_loadC (t := 34) kA34 HH.out); rfl; (first | exact .here | exact .there .here | exact .there (.there .here) | exact .there (.there (.there .here)) | exact .there (.there (.there (.there .here))) | exact .there (.there (.there (.there (.there .here)))) | exact .there (.there (.there (.there (.there (.there .here))))) | exact .there (.there (.there (.there (.there (.there (.there .here))))))); (first | rfl | exact Arr.len _ | (simp; done)); rfl)
          | ((with_reducible apply wpL_loadArr (t := 41) kA41 HH.out); rfl; (first | exact .here | exact .there .here | exact .there (.there .here) | exact .there (.there (.there .here)) | exact .there (.there (.there (.there .here))) | exact .there (.there (.there (.there (.there .here)))) | exact .there (.there (.there (.there (.there (.there .here))))) | exact .there (.there (.there (.there (.there (.there (.there .here))))))); rfl)
          | ((with_reducible apply wpL_loadC (t := 41) kA41 HH.out); rfl; (first | exact .here | exact .there .here | exact .there (.there .here) | exact .there (.there (.there .here)) | exact .there (.there (.there (.there .here))) | exact .there (.there (.there (.there (.there .here)))) | exact .there (.there (.there (.there (.there (.there .here))))) | exact .there (.there (.there (.there (.there (.there (.there .here))))))); (first | rfl | exact Arr.len _ | (simp; done)); rfl)
          | ((with_reducible apply wpL_len (t := 30) Try.underlying30); rfl; rfl)
          | ((with_reducible apply wpL_len (t := 46) Try.underlying46); rfl; rfl)
          | ((with_reducible apply wpL_boxC (dst := some 3)); rfl; (exact HH.out); rfl; (intro g3_ w_ hq_; (try simp only [List.set_cons_zero, List.set_cons_succ] at hq_); clear HH; have HH := hid hq_; clear hq_))
          | ((with_reducible apply wpL_allocC (dst := some 5) kZ41 HH.out); rfl; (intro g5_ w_ hq_; (try simp only [List.set_cons_zero, List.set_cons_succ] at hq_); clear HH; have HH := hid hq_; clear hq_))
          | ((with_reducible apply wpL_allocC (dst := some 9) kZ34 HH.out); rfl; (intro g9_ w_ hq_; (try simp only [List.set_cons_zero, List.set_cons_succ] at hq_); clear HH; have HH := hid hq_; clear hq_))
          | ((with_reducible apply wpL_allocC (dst := some 14) kZ34 HH.out); rfl; (intro g14_ w_ hq_; (try simp only [List.set_cons_zero, List.set_cons_succ] at hq_); clear HH; have HH := hid hq_; clear hq_))
          | ((with_reducible apply wpL_allocC (dst := some 17) kZ41 HH.out); rfl; (intro g17_ w_ hq_; (try simp only [List.set_cons_zero, List.set_cons_succ] at hq_); clear HH; have HH := hid hq_; clear hq_))
          | ((with_reducible apply wpL_storeArr (t := 34) kS34 HH.out); rfl; rfl; (first | exact .here | exact .there .here | exact .there (.there .here) | exact .there (.there (.there .here)) | exact .there (.there (.there (.there .here))) | exact .there (.there (.there (.there (.there .here)))) | exact .there (.there (.there (.there (.there (.there .here))))) | exact .there (.there (.there (.there (.there (.there (.there .here))))))); (first | rfl | exact Arr.len _ | (simp; done)); rfl; (intro w_ hq_; (try simp only [List.set_cons_zero, List.set_cons_succ] at hq_); clear HH; have HH := hid hq_; clear hq_))
          | ((with_reducible apply wpL_storeC (t := 34)); rfl; rfl; (exact kS34); (exact HH.out); (first | exact .here | exact .there .here | exact .there (.there .here) | exact .there (.there (.there .here)) | exact .there (.there (.there (.there .here))) | exact .there (.there (.there (.there (.there .here)))) | exact .there (.there (.there (.there (.there (.there .here))))) | exact .there (.there (.there (.there (.there (.there (.there .here))))))); (first | rfl | exact Arr.len _ | (simp; done)); (first | rfl | (intro u_ hu_; simp only [List.mem_cons, List.not_mem_nil, or_false] at hu_; rcases hu_ with rfl | hu_; rfl) | exact byt_cell1 _ | exact cells_one _ | exact wrd_one _ | exact flat_cell1 _); (first | rfl | exact Arr.len _ | (simp; done)); rfl; (intro w_ hq_; (try simp only [List.set_cons_zero, List.set_cons_succ] at hq_); clear HH; have HH := hid hq_; clear hq_))
          | ((with_reducible apply wpL_storeArr (t := 41) kS41 HH.out); rfl; rfl; (first | exact .here | exact .there .here | exact .there (.there .here) | exact .there (.there (.there .here)) | exact .there (.there (.there (.there .here))) | exact .there (.there (.there (.there (.there .here)))) | exact .there (.there (.there (.there (.there (.there .here))))) | exact .there (.there (.there (.there (.there (.there (.there .here))))))); (first | rfl | exact Arr.len _ | (simp; done)); rfl; (intro w_ hq_; (try simp only [List.set_cons_zero, List.set_cons_succ] at hq_); clear HH; have HH := hid hq_; clear hq_))
          | ((with_reducible apply wpL_storeC (t := 41)); rfl; rfl; (exact kS41); (exact HH.out); (first | exact .here | exact .there .here | exact .there (.there .here) | exact .there (.there (.there .here)) | exact .there (.there (.there (.there .here))) | exact .there (.there (.there (.there (.there .here)))) | exact .there (.there (.there (.there (.there (.there .here))))) | exact .there (.there (.there (.there (.there (.there (.there .here))))))); (first | rfl | exact Arr.len _ | (simp; done)); (first | rfl | (intro u_ hu_; simp only [List.mem_cons, List.not_mem_nil, or_false] at hu_; rcases hu_ with rfl | hu_; rfl) | exact byt_cell1 _ | exact cells_one _ | exact wrd_one _ | exact flat_cell1 _); (first | rfl | exact Arr.len _ | (simp; done)); rfl; (intro w_ hq_; (try simp only [List.set_cons_zero, List.set_cons_succ] at hq_); clear HH; have HH := hid hq_; clear hq_))
          | ((with_reducible apply wpL_move); rfl; rfl)
          | ((with_reducible apply wpL_assign); rfl; rfl)
          | ((with_reducible apply wpL_pick); rfl; rfl; rfl)
          | ((with_reducible apply wpL_not); rfl; rfl)
          | ((with_reducible apply wpL_cmp (b := true)); rfl; rfl; rfl; (first | rfl | assumption | (simp only [cmpB, decide_eq_true_eq, decide_eq_false_iff_not, beq_iff_eq, bne_iff_ne, ne_eq, beq_eq_false_iff_ne, bne_eq_false_iff_eq, gt_iff_lt, ge_iff_le]; omega) | (simp; omega)); rfl)
          | ((with_reducible apply wpL_cmp (b := false)); rfl; rfl; rfl; (first | rfl | assumption | (simp only [cmpB, decide_eq_true_eq, decide_eq_false_iff_not, beq_iff_eq, bne_iff_ne, ne_eq, beq_eq_false_iff_ne, bne_eq_false_iff_eq, gt_iff_lt, ge_iff_le]; omega) | (simp; omega)); rfl)
          | ((with_reducible apply wpL_cmp); rfl; rfl; rfl; rfl; rfl)
          | ((with_reducible apply wpL_arith); rfl; rfl; rfl; (exact IntWalk.i64_in _ (by (try simp only [arithI]); omega)); rfl)); (try simp only [arithI, Act.put, Act.eval, List.setIfInBounds_toArray, List.set_cons_succ, List.set_cons_zero, Array.getD_eq_getD_getElem?, List.getElem?_toArray, List.getElem?_cons_succ, List.getElem?_cons_zero, Option.getD_some])))
    go_ret
    exact RetB.mk rfl HH.out.dropBlk.dropBlk.below
  · by_cases hpn : 20 < p.length
    · skip
      go_wp2_with (first
        | ((first
            | ((with_reducible apply wpL_skip); rfl; skip)
            | (go_at_call 23; (first | ((have hcall_ := hid (knownM_any _)); (with_reducible refine hcall_.out.mono ?_); clear hcall_) | (with_reducible refine (knownM_any _).mono ?_)); rintro e_ w2_ ⟨rfl, hb_⟩; (have hq_ := HH.out.grow hb_); clear HH; have HH := hid hq_; clear hq_ hb_)
            | ((with_reducible apply wpL_nilCheck); rfl; rfl)
            | ((with_reducible apply wpL_fieldAddr); (first | exact kF79_0 | exact kF79_1 | exact kF79_2); rfl; rfl)
            | ((with_reducible apply wpL_load1 (t := 3) kO3 HH.out); rfl; (first | exact .here | exact .there .here | exact .there (.there .here) | exact .there (.there (.there .here)) | exact .there (.there (.there (.there .here))) | exact .there (.there (.there (.there (.there .here)))) | exact .there (.there (.there (.there (.there (.there .here))))) | exact .there (.there (.there (.there (.there (.there (.there .here))))))); rfl; rfl)
            | ((with_reducible apply wpL_load1 (t := 30) kO30 HH.out); rfl; (first | exact .here | exact .there .here | exact .there (.there .here) | exact .there (.there (.there .here)) | exact .there (.there (.there (.there .here))) | exact .there (.there (.there (.there (.there .here)))) | exact .there (.there (.there (.there (.there (.there .here))))) | exact .there (.there (.there (.there (.there (.there (.there .here))))))); rfl; rfl)
            | ((with_reducible apply wpL_loadArr (t := 34) kA34 HH.out); rfl; (first | exact .here | exact .there .here | exact .there (.there .here) | exact .there (.there (.there .here)) | exact .there (.there (.there (.there .here))) | exact .there (.there (.there (.there (.there .here)))) | exact .there (.there (.there (.there (.there (.there .here))))) | exact .there (.there (.there (.there (.there (.there (.there .here))))))); rfl)
            | ((with_reducible apply wpL_loadC (t := 34) kA34 HH.out); rfl; (first | exact .here | exact .there .here | exact .there (.there .here) | exact .there (.there (.there .here)) | exact .there (.there (.there (.there .here))) | exact .there (.there (.there (.there (.there .here)))) | exact .there (.there (.there (.there (.there (.there .here))))) | exact .there (.there (.there (.there (.there (.there (.there .here))))))); (first | rfl | exact Arr.len _ | (simp; done)); rfl)
            | ((with_reducible apply wpL_loadArr (t := 41) kA41 HH.out); rfl; (first | exact .here | exact .there .here | exact .there (.there .here) | exact .there (.there (.there .here)) | exact .there (.there (.there (.there .here))) | exact .there (.there (.there (.there (.there .here)))) | exact .there (.there (.there (.there (.there (.there .here))))) | exact .there (.there (.there (.there (.there (.there (.there .here))))))); rfl)
            | ((with_reducible apply wpL_loadC (t := 41) kA41 HH.out); rfl; (first | exact .here | exact .there .here | exact .there (.there .here) | exact .there (.there (.there .here)) | exact .there (.there (.there (.there .here))) | exact .there (.there (.there (.there (.there .here)))) | exact .there (.there (.there (.there (.there (.there .here))))) | exact .there (.there (.there (.there (.there (.there (.there .here))))))); (first | rfl | exact Arr.len _ | (simp; done)); rfl)
            | ((with_reducible apply wpL_len (t := 30) Try.underlying30); rfl; rfl)
            | ((with_reducible apply wpL_len (t := 46) Try.underlying46); rfl; rfl)
            | ((with_reducible apply wpL_boxC (dst := some 3)); rfl; (exact HH.out); rfl; (intro g3_ w_ hq_; (try simp only [List.set_cons_zero, List.set_cons_succ] at hq_); clear HH; have HH := hid hq_; clear hq_))
            | ((with_reducible apply wpL_allocC (dst := some 5) kZ41 HH.out); rfl; (intro g5_ w_ hq_; (try simp only [List.set_cons_zero, List.set_cons_succ] at hq_); clear HH; have HH := hid hq_; clear hq_))
            | ((with_reducible apply wpL_allocC (dst := some 9) kZ34 HH.out); rfl; (intro g9_ w_ hq_; (try simp only [List.set_cons_zero, List.set_cons_succ] at hq_); clear HH; have HH := hid hq_; clear hq_))
            | ((with_reducible apply wpL_allocC (dst := some 14) kZ34 HH.out); rfl; (intro g14_ w_ hq_; (try simp only [List.set_cons_zero, List.set_cons_succ] at hq_); clear HH; have HH := hid hq_; clear hq_))
            | ((with_reducible apply wpL_allocC (dst := some 17) kZ41 HH.out); rfl; (intro g17_ w_ hq_; (try simp only [List.set_cons_zero, List.set_cons_succ] at hq_); clear HH; have HH := hid hq_; clear hq_))
            | ((with_reducible apply wpL_storeArr (t := 34) kS34 HH.out); rfl; rfl; (first | exact .here | exact .there .here | exact .there (.there .here) | exact .there (.there (.there .here)) | exact .there (.there (.there (.there .here))) | exact .there (.there (.there (.there (.there .here)))) | exact .there (.there (.there (.there (.there (.there .here))))) | exact .there (.there (.there (.there (.there (.there (.there .here))))))); (first | rfl | exact Arr.len _ | (simp; done)); rfl; (intro w_ hq_; (try simp only [List.set_cons_zero, List.set_cons_succ] at hq_); clear HH; have HH := hid hq_; clear hq_))
            | ((with_reducible apply wpL_storeC (t := 34)); rfl; rfl; (exact kS34); (exact HH.out); (first | exact .here | exact .there .here | exact .there (.there .here) | exact .there (.there (.there .here)) | exact .there (.there (.there (.there .here))) | exact .there (.there (.there (.there (.there .here)))) | exact .there (.there (.there (.there (.there (.there .here))))) | exact .there (.there (.there (.there (.there (.there (.there .here))))))); (first | rfl | exact Arr.len _ | (simp; done)); (first | rfl | (intro u_ hu_; simp only [List.mem_cons, List.not_mem_nil, or_false] at hu_; rcases hu_ with rfl | hu_; rfl) | exact byt_cell1 _ | exact cells_one _ | exact wrd_one _ | exact flat_cell1 _); (first | rfl | exact Arr.len _ | (simp; done)); rfl; (intro w_ hq_; (try simp only [List.set_cons_zero, List.set_cons_succ] at hq_); clear HH; have HH := hid hq_; clear hq_))
            | ((with_reducible apply wpL_storeArr (t := 41) kS41 HH.out); rfl; rfl; (first | exact .here | exact .there .here | exact .there (.there .here) | exact .there (.there (.there .here)) | exact .there (.there (.there (.there .here))) | exact .there (.there (.there (.there (.there .here)))) | exact .there (.there (.there (.there (.there (.there .here))))) | exact .there (.there (.there (.there (.there (.there (.there .here))))))); (first | rfl | exact Arr.len _ | (simp; done)); rfl; (intro w_ hq_; (try simp only [List.set_cons_zero, List.set_cons_succ] at hq_); clear HH; have HH := hid hq_; clear hq_))
            | ((with_reducible apply wpL_storeC (t := 41)); rfl; rfl; (exact kS41); (exact HH.out); (first | exact .here | exact .there .here | exact .there (.there .here) | exact .there (.there (.there .here)) | exact .there (.there (.there (.there .here))) | exact .there (.there (.there (.there (.there .here)))) | exact .there (.there (.there (.there (.there (.there .here))))) | exact .there (.there (.there (.there (.there (.there (.there .here))))))); (first | rfl | exact Arr.len _ | (simp; done)); (first | rfl | (intro u_ hu_; simp only [List.mem_cons, List.not_mem_nil, or_false] at hu_; rcases hu_ with rfl | hu_; rfl) | exact byt_cell1 _ | exact cells_one _ | exact wrd_one _ | exact flat_cell1 _); (first | rfl | exact Arr.len _ | (simp; done)); rfl; (intro w_ hq_; (try simp only [List.set_cons_zero, List.set_cons_succ] at hq_); clear HH; have HH := hid hq_; clear hq_))
            | ((with_reducible apply wpL_move); rfl; rfl)
            | ((with_reducible apply wpL_assign); rfl; rfl)
            | ((with_reducible apply wpL_pick); rfl; rfl; rfl)
            | ((with_reducible apply wpL_not); rfl; rfl)
            | ((with_reducible apply wpL_cmp (b := true)); rfl; rfl; rfl; (first | rfl | assumption | (simp only [cmpB, decide_eq_true_eq, decide_eq_false_iff_not, beq_iff_eq, bne_iff_ne, ne_eq, beq_eq_false_iff_ne, bne_eq_false_iff_eq, gt_iff_lt, ge_iff_le]; omega) | (simp; omega)); rfl)
            | ((with_reducible apply wpL_cmp (b := false)); rfl; rfl; rfl; (first | rfl | assumption | (simp only [cmpB, decide_eq_true_eq, decide_eq_false_iff_not, beq_iff_eq, bne_iff_ne, ne_eq, beq_eq_false_iff_ne, bne_eq_false_iff_eq, gt_iff_lt, ge_iff_le]; omega) | (simp; omega)); rfl)
            | ((with_reducible apply wpL_cmp); rfl; rfl; rfl; rfl; rfl)
            | ((with_reducible apply wpL_arith); rfl; rfl; rfl; (exact IntWalk.i64_in _ (by (try simp only [arithI]); omega)); rfl)); (try simp only [arithI, Act.put, Act.eval, List.setIfInBounds_toArray, List.set_cons_succ, List.set_cons_zero, Array.getD_eq_getD_getElem?, List.getElem?_toArray, List.getElem?_cons_succ, List.getElem?_cons_zero, Option.getD_some])))
      go_ret
      exact RetB.mk rfl HH.out.dropBlk.dropBlk.below
    · obtain ⟨r, hr⟩ : ∃ r, rootV l = r := ⟨_, rfl⟩
      obtain ⟨c, hc⟩ : ∃ c, checkC l.length = c := ⟨_, rfl⟩
      obtain ⟨fv, hfv⟩ : ∃ fv, fromV x i p = fv := ⟨_, rfl⟩
      obtain ⟨fc, hfc⟩ : ∃ fc, fromC i p.length = fc := ⟨_, rfl⟩
      obtain ⟨vb, hvb⟩ : ∃ vb, verB r x i p = vb := ⟨_, rfl⟩
      have HR := hid hr
      have HC := hid hc
      have HFV := hid hfv
      have HFC := hid hfc
      have HVB := hid hvb
      have hff : ((fc : Int) != fc) = false := by simp
      clear hr hc hfv hfc hvb
      go_wp2_with (first
        | ((first
            | ((with_reducible apply wpL_skip); rfl; skip)
            | (go_at_call 23; (first | ((have hcall_ := hid (knownM_any _)); (with_reducible refine hcall_.out.mono ?_); clear hcall_) | (with_reducible refine (knownM_any _).mono ?_)); rintro e_ w2_ ⟨rfl, hb_⟩; (have hq_ := HH.out.grow hb_); clear HH; have HH := hid hq_; clear hq_ hb_)
            | (go_at_call 49; (have hcall_ := hid (ownN_any _ (.slice ao l.length cap) l (HH.out.sl HL.out) (by omega))); (with_reducible refine hcall_.out.mono ?_); clear hcall_; rintro e_ w2_ ⟨ao1, cap1, rfl, hr_, hb_⟩; (have hq_ := HH.out.addRow hb_ hr_); clear HH; have HH := hid hq_; clear hq_ hb_ hr_)
            | (go_at_call 38; (have hcall_ := hid (root_any _ _ l HH.out.sl0 (by omega))); (with_reducible refine hcall_.out.mono ?_); clear hcall_; rw [HR.out, HC.out]; rintro e_ w2_ ⟨rfl, hb_⟩; (have hq_ := HH.out.grow hb_); clear HH; have HH := hid hq_; clear hq_ hb_)
            | ((with_reducible apply wpL_nilCheck); rfl; rfl)
            | ((with_reducible apply wpL_fieldAddr); (first | exact kF79_0 | exact kF79_1 | exact kF79_2); rfl; rfl)
            | ((with_reducible apply wpL_load1 (t := 3) kO3 HH.out); rfl; (first | exact .here | exact .there .here | exact .there (.there .here) | exact .there (.there (.there .here)) | exact .there (.there (.there (.there .here))) | exact .there (.there (.there (.there (.there .here)))) | exact .there (.there (.there (.there (.there (.there .here))))) | exact .there (.there (.there (.there (.there (.there (.there .here))))))); rfl; rfl)
            | ((with_reducible apply wpL_load1 (t := 30) kO30 HH.out); rfl; (first | exact .here | exact .there .here | exact .there (.there .here) | exact .there (.there (.there .here)) | exact .there (.there (.there (.there .here))) | exact .there (.there (.there (.there (.there .here)))) | exact .there (.there (.there (.there (.there (.there .here))))) | exact .there (.there (.there (.there (.there (.there (.there .here))))))); rfl; rfl)
            | ((with_reducible apply wpL_loadArr (t := 34) kA34 HH.out); rfl; (first | exact .here | exact .there .here | exact .there (.there .here) | exact .there (.there (.there .here)) | exact .there (.there (.there (.there .here))) | exact .there (.there (.there (.there (.there .here)))) | exact .there (.there (.there (.there (.there (.there .here))))) | exact .there (.there (.there (.there (.there (.there (.there .here))))))); rfl)
            | ((with_reducible apply wpL_loadC (t := 34) kA34 HH.out); rfl; (first | exact .here | exact .there .here | exact .there (.there .here) | exact .there (.there (.there .here)) | exact .there (.there (.there (.there .here))) | exact .there (.there (.there (.there (.there .here)))) | exact .there (.there (.there (.there (.there (.there .here))))) | exact .there (.there (.there (.there (.there (.there (.there .here))))))); (first | rfl | exact Arr.len _ | (simp; done)); rfl)
            | ((with_reducible apply wpL_loadArr (t := 41) kA41 HH.out); rfl; (first | exact .here | exact .there .here | exact .there (.there .here) | exact .there (.there (.there .here)) | exact .there (.there (.there (.there .here))) | exact .there (.there (.there (.there (.there .here)))) | exact .there (.there (.there (.there (.there (.there .here))))) | exact .there (.there (.there (.there (.there (.there (.there .here))))))); rfl)
            | ((with_reducible apply wpL_loadC (t := 41) kA41 HH.out); rfl; (first | exact .here | exact .there .here | exact .there (.there .here) | exact .there (.there (.there .here)) | exact .there (.there (.there (.there .here))) | exact .there (.there (.there (.there (.there .here)))) | exact .there (.there (.there (.there (.there (.there .here))))) | exact .there (.there (.there (.there (.there (.there (.there .here))))))); (first | rfl | exact Arr.len _ | (simp; done)); rfl)
            | ((with_reducible apply wpL_len (t := 30) Try.underlying30); rfl; rfl)
            | ((with_reducible apply wpL_len (t := 46) Try.underlying46); rfl; rfl)
            | ((with_reducible apply wpL_boxC (dst := some 3)); rfl; (exact HH.out); rfl; (intro g3_ w_ hq_; (try simp only [List.set_cons_zero, List.set_cons_succ] at hq_); clear HH; have HH := hid hq_; clear hq_))
            | ((with_reducible apply wpL_allocC (dst := some 5) kZ41 HH.out); rfl; (intro g5_ w_ hq_; (try simp only [List.set_cons_zero, List.set_cons_succ] at hq_); clear HH; have HH := hid hq_; clear hq_))
            | ((with_reducible apply wpL_allocC (dst := some 9) kZ34 HH.out); rfl; (intro g9_ w_ hq_; (try simp only [List.set_cons_zero, List.set_cons_succ] at hq_); clear HH; have HH := hid hq_; clear hq_))
            | ((with_reducible apply wpL_allocC (dst := some 14) kZ34 HH.out); rfl; (intro g14_ w_ hq_; (try simp only [List.set_cons_zero, List.set_cons_succ] at hq_); clear HH; have HH := hid hq_; clear hq_))
            | ((with_reducible apply wpL_allocC (dst := some 17) kZ41 HH.out); rfl; (intro g17_ w_ hq_; (try simp only [List.set_cons_zero, List.set_cons_succ] at hq_); clear HH; have HH := hid hq_; clear hq_))
            | ((with_reducible apply wpL_storeArr (t := 34) kS34 HH.out); rfl; rfl; (first | exact .here | exact .there .here | exact .there (.there .here) | exact .there (.there (.there .here)) | exact .there (.there (.there (.there .here))) | exact .there (.there (.there (.there (.there .here)))) | exact .there (.there (.there (.there (.there (.there .here))))) | exact .there (.there (.there (.there (.there (.there (.there .here))))))); (first | rfl | exact Arr.len _ | (simp; done)); rfl; (intro w_ hq_; (try simp only [List.set_cons_zero, List.set_cons_succ] at hq_); clear HH; have HH := hid hq_; clear hq_))
            | ((with_reducible apply wpL_storeC (t := 34)); rfl; rfl; (exact kS34); (exact HH.out); (first | exact .here | exact .there .here | exact .there (.there .here) | exact .there (.there (.there .here)) | exact .there (.there (.there (.there .here))) | exact .there (.there (.there (.there (.there .here)))) | exact .there (.there (.there (.there (.there (.there .here))))) | exact .there (.there (.there (.there (.there (.there (.there .here))))))); (first | rfl | exact Arr.len _ | (simp; done)); (first | rfl | (intro u_ hu_; simp only [List.mem_cons, List.not_mem_nil, or_false] at hu_; rcases hu_ with rfl | hu_; rfl) | exact byt_cell1 _ | exact cells_one _ | exact wrd_one _ | exact flat_cell1 _); (first | rfl | exact Arr.len _ | (simp; done)); rfl; (intro w_ hq_; (try simp only [List.set_cons_zero, List.set_cons_succ] at hq_); clear HH; have HH := hid hq_; clear hq_))
            | ((with_reducible apply wpL_storeArr (t := 41) kS41 HH.out); rfl; rfl; (first | exact .here | exact .there .here | exact .there (.there .here) | exact .there (.there (.there .here)) | exact .there (.there (.there (.there .here))) | exact .there (.there (.there (.there (.there .here)))) | exact .there (.there (.there (.there (.there (.there .here))))) | exact .there (.there (.there (.there (.there (.there (.there .here))))))); (first | rfl | exact Arr.len _ | (simp; done)); rfl; (intro w_ hq_; (try simp only [List.set_cons_zero, List.set_cons_succ] at hq_); clear HH; have HH := hid hq_; clear hq_))
            | ((with_reducible apply wpL_storeC (t := 41)); rfl; rfl; (exact kS41); (exact HH.out); (first | exact .here | exact .there .here | exact .there (.there .here) | exact .there (.there (.there .here)) | exact .there (.there (.there (.there .here))) | exact .there (.there (.there (.there (.there .here)))) | exact .there (.there (.there (.there (.there (.there .here))))) | exact .there (.there (.there (.there (.there (.there (.there .here))))))); (first | rfl | exact Arr.len _ | (simp; done)); (first | rfl | (intro u_ hu_; simp only [List.mem_cons, List.not_mem_nil, or_false] at hu_; rcases hu_ with rfl | hu_; rfl) | exact byt_cell1 _ | exact cells_one _ | exact wrd_one _ | exact flat_cell1 _); (first | rfl | exact Arr.len _ | (simp; done)); rfl; (intro w_ hq_; (try simp only [List.set_cons_zero, List.set_cons_succ] at hq_); clear HH; have HH := hid hq_; clear hq_))
            | ((with_reducible apply wpL_move); rfl; rfl)
            | ((with_reducible apply wpL_assign); rfl; rfl)
            | ((with_reducible apply wpL_pick); rfl; rfl; rfl)
            | ((with_reducible apply wpL_not); rfl; rfl)
            | ((with_reducible apply wpL_cmp (b := true)); rfl; rfl; rfl; (first | rfl | assumption | (simp only [cmpB, decide_eq_true_eq, decide_eq_false_iff_not, beq_iff_eq, bne_iff_ne, ne_eq, beq_eq_false_iff_ne, bne_eq_false_iff_eq, gt_iff_lt, ge_iff_le]; omega) | (simp; omega)); rfl)
            | ((with_reducible apply wpL_cmp (b := false)); rfl; rfl; rfl; (first | rfl | assumption | (simp only [cmpB, decide_eq_true_eq, decide_eq_false_iff_not, beq_iff_eq, bne_iff_ne, ne_eq, beq_eq_false_iff_ne, bne_eq_false_iff_eq, gt_iff_lt, ge_iff_le]; omega) | (simp; omega)); rfl)
            | ((with_reducible apply wpL_cmp); rfl; rfl; rfl; rfl; rfl)
            | ((with_reducible apply wpL_arith); rfl; rfl; rfl; (exact IntWalk.i64_in _ (by (try simp only [arithI]); omega)); rfl)); (try simp only [arithI, Act.put, Act.eval, List.setIfInBounds_toArray, List.set_cons_succ, List.set_cons_zero, Array.getD_eq_getD_getElem?, List.getElem?_toArray, List.getElem?_cons_succ, List.getElem?_cons_zero, Option.getD_some])))
      go_loopw [11] (VerRel w i x r (.slice ap p.length cp) l g3_ g5_ g9_ ao1 cap1) (fun kv _ => l.length - (intOf kv).toNat)
      case atStart => exact ⟨0, Nat.zero_le _, rfl, HH.out⟩
      case round =>
        obtain ⟨k, hk, rfl, hr⟩ := hrel
        clear HH
        have HH := hid hr
        clear hr
        by_cases hlt : k < l.length
        · by_cases h0 : c = 0
          · subst h0
            obtain ⟨ad1, cap', e⟩ := HH.out.sl0.some (by omega)
            cases e
            obtain ⟨y, hy⟩ : ∃ y, l.getD k Nd0 = y := ⟨_, rfl⟩
            obtain ⟨q, hq⟩ : ∃ q, pathV l k = q := ⟨_, rfl⟩
            have hver := ver_path HC.out hlt
            rw [hy, hq, HR.out] at hver
            have HV1 := hid hver.1
            have HV2 := hid hver.2
            have HQV := hid hq
            have HY := hid (show l[k] = y by rw [← hy]; simp [hlt])
            have HQL := hid (show q.length ≤ 1000000000 by
              rw [← hq]
              unfold pathV
              split
              · rw [pathL_len]
                have : Nat.log2 l.length ≤ l.length := Nat.log2_le_self _
                omega
              · simp)
            clear hver hy hq
            go_wp2_with (first
              | ((first
                  | ((with_reducible apply wpL_skip); rfl; skip)
                  | (go_at_call 51; (have hcall_ := hid (progPathO_any _ _ l k HH.out.sl0 (by omega))); (with_reducible refine hcall_.out.mono ?_); clear hcall_; rw [HQV.out, HV1.out]; rintro e_ w2_ ⟨ao2, cap2, rfl, hr_, hb_⟩; (have hq_ := HH.out.addRow hb_ hr_); clear HH; have HH := hid hq_; clear hq_ hb_ hr_)
                  | ((with_reducible apply wpL_nilCheck); rfl; rfl)
                  | ((with_reducible apply wpL_fieldAddr); (first | exact kF79_0 | exact kF79_1 | exact kF79_2); rfl; rfl)
                  | ((with_reducible apply wpL_load1 (t := 3) kO3 HH.out); rfl; (first | exact .here | exact .there .here | exact .there (.there .here) | exact .there (.there (.there .here)) | exact .there (.there (.there (.there .here))) | exact .there (.there (.there (.there (.there .here)))) | exact .there (.there (.there (.there (.there (.there .here))))) | exact .there (.there (.there (.there (.there (.there (.there .here))))))); rfl; rfl)
                  | ((with_reducible apply wpL_load1 (t := 30) kO30 HH.out); rfl; (first | exact .here | exact .there .here | exact .there (.there .here) | exact .there (.there (.there .here)) | exact .there (.there (.there (.there .here))) | exact .there (.there (.there (.there (.there .here)))) | exact .there (.there (.there (.there (.there (.there .here))))) | exact .there (.there (.there (.there (.there (.there (.there .here))))))); rfl; rfl)
                  | ((with_reducible apply wpL_loadArr (t := 34) kA34 HH.out); rfl; (first | exact .here | exact .there .here | exact .there (.there .here) | exact .there (.there (.there .here)) | exact .there (.there (.there (.there .here))) | exact .there (.there (.there (.there (.there .here)))) | exact .there (.there (.there (.there (.there (.there .here))))) | exact .there (.there (.there (.there (.there (.there (.there .here))))))); rfl)
                  | ((with_reducible apply wpL_loadC (t := 34) kA34 HH.out); rfl; (first | exact .here | exact .there .here | exact .there (.there .here) | exact .there (.there (.there .here)) | exact .there (.there (.there (.there .here))) | exact .there (.there (.there (.there (.there .here)))) | exact .there (.there (.there (.there (.there (.there .here))))) | exact .there (.there (.there (.there (.there (.there (.there .here))))))); (first | rfl | exact Arr.len _ | (simp; done)); rfl)
                  | ((with_reducible apply wpL_loadArr (t := 41) kA41 HH.out); rfl; (first | exact .here | exact .there .here | exact .there (.there .here) | exact .there (.there (.there .here)) | exact .there (.there (.there (.there .here))) | exact .there (.there (.there (.there (.there .here)))) | exact .there (.there (.there (.there (.there (.there .here))))) | exact .there (.there (.there (.there (.there (.there (.there .here))))))); rfl)
                  | ((with_reducible apply wpL_loadC (t := 41) kA41 HH.out); rfl; (first | exact .here | exact .there .here | exact .there (.there .here) | exact .there (.there (.there .here)) | exact .there (.there (.there (.there .here))) | exact .there (.there (.there (.there (.there .here)))) | exact .there (.there (.there (.there (.there (.there .here))))) | exact .there (.there (.there (.there (.there (.there (.there .here))))))); (first | rfl | exact Arr.len _ | (simp; done)); rfl)
                  | ((with_reducible apply wpL_len (t := 30) Try.underlying30); rfl; rfl)
                  | ((with_reducible apply wpL_len (t := 46) Try.underlying46); rfl; rfl)
                  | ((with_reducible apply wpL_boxC (dst := some 3)); rfl; (exact HH.out); rfl; (intro g3_ w_ hq_; (try simp only [List.set_cons_zero, List.set_cons_succ] at hq_); clear HH; have HH := hid hq_; clear hq_))
                  | ((with_reducible apply wpL_allocC (dst := some 5) kZ41 HH.out); rfl; (intro g5_ w_ hq_; (try simp only [List.set_cons_zero, List.set_cons_succ] at hq_); clear HH; have HH := hid hq_; clear hq_))
                  | ((with_reducible apply wpL_allocC (dst := some 9) kZ34 HH.out); rfl; (intro g9_ w_ hq_; (try simp only [List.set_cons_zero, List.set_cons_succ] at hq_); clear HH; have HH := hid hq_; clear hq_))
                  | ((with_reducible apply wpL_allocC (dst := some 14) kZ34 HH.out); rfl; (intro g14_ w_ hq_; (try simp only [List.set_cons_zero, List.set_cons_succ] at hq_); clear HH; have HH := hid hq_; clear hq_))
                  | ((with_reducible apply wpL_allocC (dst := some 17) kZ41 HH.out); rfl; (intro g17_ w_ hq_; (try simp only [List.set_cons_zero, List.set_cons_succ] at hq_); clear HH; have HH := hid hq_; clear hq_))
                  | ((with_reducible apply wpL_storeArr (t := 34) kS34 HH.out); rfl; rfl; (first | exact .here | exact .there .here | exact .there (.there .here) | exact .there (.there (.there .here)) | exact .there (.there (.there (.there .here))) | exact .there (.there (.there (.there (.there .here)))) | exact .there (.there (.there (.there (.there (.there .here))))) | exact .there (.there (.there (.there (.there (.there (.there .here))))))); (first | rfl | exact Arr.len _ | (simp; done)); rfl; (intro w_ hq_; (try simp only [List.set_cons_zero, List.set_cons_succ] at hq_); clear HH; have HH := hid hq_; clear hq_))
                  | ((with_reducible apply wpL_storeC (t := 34)); rfl; rfl; (exact kS34); (exact HH.out); (first | exact .here | exact .there .here | exact .there (.there .here) | exact .there (.there (.there .here)) | exact .there (.there (.there (.there .here))) | exact .there (.there (.there (.there (.there .here)))) | exact .there (.there (.there (.there (.there (.there .here))))) | exact .there (.there (.there (.there (.there (.there (.there .here))))))); (first | rfl | exact Arr.len _ | (simp; done)); (first | rfl | (intro u_ hu_; simp only [List.mem_cons, List.not_mem_nil, or_false] at hu_; rcases hu_ with rfl | hu_; rfl) | exact byt_cell1 _ | exact cells_one _ | exact wrd_one _ | exact flat_cell1 _); (first | rfl | exact Arr.len _ | (simp; done)); rfl; (intro w_ hq_; (try simp only [List.set_cons_zero, List.set_cons_succ] at hq_); clear HH; have HH := hid hq_; clear hq_))
                  | ((with_reducible apply wpL_storeArr (t := 41) kS41 HH.out); rfl; rfl; (first | exact .here | exact .there .here | exact .there (.there .here) | exact .there (.there (.there .here)) | exact .there (.there (.there (.there .here))) | exact .there (.there (.there (.there (.there .here)))) | exact .there (.there (.there (.there (.there (.there .here))))) | exact .there (.there (.there (.there (.there (.there (.there .here))))))); (first | rfl | exact Arr.len _ | (simp; done)); rfl; (intro w_ hq_; (try simp only [List.set_cons_zero, List.set_cons_succ] at hq_); clear HH; have HH := hid hq_; clear hq_))
                  | ((with_reducible apply wpL_storeC (t := 41)); rfl; rfl; (exact kS41); (exact HH.out); (first | exact .here | exact .there .here | exact .there (.there .here) | exact .there (.there (.there .here)) | exact .there (.there (.there (.there .here))) | exact .there (.there (.there (.there (.there .here)))) | exact .there (.there (.there (.there (.there (.there .here))))) | exact .there (.there (.there (.there (.there (.there (.there .here))))))); (first | rfl | exact Arr.len _ | (simp; done)); (first | rfl | (intro u_ hu_; simp only [List.mem_cons, List.not_mem_nil, or_false] at hu_; rcases hu_ with rfl | hu_; rfl) | exact byt_cell1 _ | exact cells_one _ | exact wrd_one _ | exact flat_cell1 _); (first | rfl | exact Arr.len _ | (simp; done)); rfl; (intro w_ hq_; (try simp only [List.set_cons_zero, List.set_cons_succ] at hq_); clear HH; have HH := hid hq_; clear hq_))
                  | ((with_reducible apply wpL_move); rfl; rfl)
                  | ((with_reducible apply wpL_assign); rfl; rfl)
                  | ((with_reducible apply wpL_pick); rfl; rfl; rfl)
                  | ((with_reducible apply wpL_not); rfl; rfl)
                  | ((with_reducible apply wpL_cmp (b := true)); rfl; rfl; rfl; (first | rfl | assumption | (simp only [cmpB, decide_eq_true_eq, decide_eq_false_iff_not, beq_iff_eq, bne_iff_ne, ne_eq, beq_eq_false_iff_ne, bne_eq_false_iff_eq, gt_iff_lt, ge_iff_le]; omega) | (simp; omega)); rfl)
                  | ((with_reducible apply wpL_cmp (b := false)); rfl; rfl; rfl; (first | rfl | assumption | (simp only [cmpB, decide_eq_true_eq, decide_eq_false_iff_not, beq_iff_eq, bne_iff_ne, ne_eq, beq_eq_false_iff_ne, bne_eq_false_iff_eq, gt_iff_lt, ge_iff_le]; omega) | (simp; omega)); rfl)
                  | ((with_reducible apply wpL_cmp); rfl; rfl; rfl; rfl; rfl)
                  | ((with_reducible apply wpL_arith); rfl; rfl; rfl; (exact IntWalk.i64_in _ (by (try simp only [arithI]); omega)); rfl)); (try simp only [arithI, Act.put, Act.eval, List.setIfInBounds_toArray, List.set_cons_succ, List.set_cons_zero, Array.getD_eq_getD_getElem?, List.getElem?_toArray, List.getElem?_cons_succ, List.getElem?_cons_zero, Option.getD_some])))
            refine wp_region_tailQ 10 (by kernel_rfl) (by kernel_rfl) (by kernel_rfl) HH.out ?_
            simp only [List.take_succ_cons, List.take_zero, List.drop_succ_cons, List.drop_zero]
            repeat ((first
              | ((with_reducible apply wpQ_skip); rfl; skip)
              | ((with_reducible apply wpQ_index (dst := some 67) kE46 (j := k)); rfl; rfl; rfl; (exact hlt); rfl)
              | ((with_reducible apply wpQ_loadEl (dst := some 68) (v := y) kA34 (fun wq hwq => get_as (show Arrs wq (.slice (some ad1) l.length cap1) l from Holds.sl1 hwq) hlt HY.out)); rfl; rfl)
              | ((with_reducible apply wpQ_nilCheck); rfl; rfl)
              | ((with_reducible apply wpQ_fieldAddr); (first | exact kF79_0 | exact kF79_1 | exact kF79_2); rfl; rfl)
              | ((with_reducible apply wpQ_load1 (t := 3) kO3); rfl; (first | exact .here | exact .there .here | exact .there (.there .here) | exact .there (.there (.there .here)) | exact .there (.there (.there (.there .here))) | exact .there (.there (.there (.there (.there .here)))) | exact .there (.there (.there (.there (.there (.there .here))))) | exact .there (.there (.there (.there (.there (.there (.there .here))))))); rfl; rfl)
              | ((with_reducible apply wpQ_load1 (t := 30) kO30); rfl; (first | exact .here | exact .there .here | exact .there (.there .here) | exact .there (.there (.there .here)) | exact .there (.there (.there (.there .here))) | exact .there (.there (.there (.there (.there .here)))) | exact .there (.there (.there (.there (.there (.there .here))))) | exact .there (.there (.there (.there (.there (.there (.there .here))))))); rfl; rfl)
              | ((with_reducible apply wpQ_loadArr (t := 34) kA34); rfl; (first | exact .here | exact .there .here | exact .there (.there .here) | exact .there (.there (.there .here)) | exact .there (.there (.there (.there .here))) | exact .there (.there (.there (.there (.there .here)))) | exact .there (.there (.there (.there (.there (.there .here))))) | exact .there (.there (.there (.there (.there (.there (.there .here))))))); rfl)
              | ((with_reducible apply wpQ_loadC (t := 34) kA34); rfl; (first | exact .here | exact .there .here | exact .there (.there .here) | exact .there (.there (.there .here)) | exact .there (.there (.there (.there .here))) | exact .there (.there (.there (.there (.there .here)))) | exact .there (.there (.there (.there (.there (.there .here))))) | exact .there (.there (.there (.there (.there (.there (.there .here))))))); (first | rfl | exact Arr.len _ | (simp; done)); rfl)
              | ((with_reducible apply wpQ_loadArr (t := 41) kA41); rfl; (first | exact .here | exact .there .here | exact .there (.there .here) | exact .there (.there (.there .here)) | exact .there (.there (.there (.there .here))) | exact .there (.there (.there (.there (.there .here)))) | exact .there (.there (.there (.there (.there (.there .here))))) | exact .there (.there (.there (.there (.there (.there (.there .here))))))); rfl)
              | ((with_reducible apply wpQ_loadC (t := 41) kA41); rfl; (first | exact .here | exact .there .here | exact .there (.there .here) | exact .there (.there (.there .here)) | exact .there (.there (.there (.there .here))) | exact .there (.there (.there (.there (.there .here)))) | exact .there (.there (.there (.there (.there (.there .here))))) | exact .there (.there (.there (.there (.there (.there (.there .here))))))); (first | rfl | exact Arr.len _ | (simp; done)); rfl)
              | ((with_reducible apply wpQ_len (t := 30) Try.underlying30); rfl; rfl)
              | ((with_reducible apply wpQ_len (t := 46) Try.underlying46); rfl; rfl)
              | ((with_reducible apply wpQ_move); rfl; rfl)
              | ((with_reducible apply wpQ_assign); rfl; rfl)
              | ((with_reducible apply wpQ_pick); rfl; rfl; rfl)
              | ((with_reducible apply wpQ_not); rfl; rfl)
              | ((with_reducible apply wpQ_cmp (b := true)); rfl; rfl; rfl; (first | rfl | assumption | (simp only [cmpB, decide_eq_true_eq, decide_eq_false_iff_not, beq_iff_eq, bne_iff_ne, ne_eq, beq_eq_false_iff_ne, bne_eq_false_iff_eq, gt_iff_lt, ge_iff_le]; omega) | (simp; omega)); rfl)
              | ((with_reducible apply wpQ_cmp (b := false)); rfl; rfl; rfl; (first | rfl | assumption | (simp only [cmpB, decide_eq_true_eq, decide_eq_false_iff_not, beq_iff_eq, bne_iff_ne, ne_eq, beq_eq_false_iff_ne, bne_eq_false_iff_eq, gt_iff_lt, ge_iff_le]; omega) | (simp; omega)); rfl)
              | ((with_reducible apply wpQ_cmp); rfl; rfl; rfl; rfl; rfl)
              | ((with_reducible apply wpQ_arith); rfl; rfl; rfl; (exact IntWalk.i64_in _ (by (try simp only [arithI]); omega)); rfl)); (try simp only [if_true, if_false, Bool.false_eq_true, arithI, Act.put, Act.eval, List.setIfInBounds_toArray, List.set_cons_succ, List.set_cons_zero, Array.getD_eq_getD_getElem?, List.getElem?_toArray, List.getElem?_cons_succ, List.getElem?_cons_zero, Option.getD_some]))
            refine wpQuiet_nil ?_
            intro wq hq_
            have HQ := hid hq_
            clear hq_
            clear HH
            have HH := HQ
            clear HQ
            go_wp2_with (first
              | ((first
                  | ((with_reducible apply wpL_skip); rfl; skip)
                  | (go_at_call 53; (have hcall_ := hid (verify_any _ _ r y k q HH.out.sl0 HQL.out)); (with_reducible refine hcall_.out.mono ?_); clear hcall_; rw [HV2.out]; rintro e_ w2_ ⟨rfl, hb_⟩; (have hq_ := (HH.out.grow hb_).dropRow); clear HH; have HH := hid hq_; clear hq_ hb_)
                  | ((with_reducible apply wpL_nilCheck); rfl; rfl)
                  | ((with_reducible apply wpL_fieldAddr); (first | exact kF79_0 | exact kF79_1 | exact kF79_2); rfl; rfl)
                  | ((with_reducible apply wpL_load1 (t := 3) kO3 HH.out); rfl; (first | exact .here | exact .there .here | exact .there (.there .here) | exact .there (.there (.there .here)) | exact .there (.there (.there (.there .here))) | exact .there (.there (.there (.there (.there .here)))) | exact .there (.there (.there (.there (.there (.there .here))))) | exact .there (.there (.there (.there (.there (.there (.there .here))))))); rfl; rfl)
                  | ((with_reducible apply wpL_load1 (t := 30) kO30 HH.out); rfl; (first | exact .here | exact .there .here | exact .there (.there .here) | exact .there (.there (.there .here)) | exact .there (.there (.there (.there .here))) | exact .there (.there (.there (.there (.there .here)))) | exact .there (.there (.there (.there (.there (.there .here))))) | exact .there (.there (.there (.there (.there (.there (.there .here))))))); rfl; rfl)
                  | ((with_reducible apply wpL_loadArr (t := 34) kA34 HH.out); rfl; (first | exact .here | exact .there .here | exact .there (.there .here) | exact .there (.there (.there .here)) | exact .there (.there (.there (.there .here))) | exact .there (.there (.there (.there (.there .here)))) | exact .there (.there (.there (.there (.there (.there .here))))) | exact .there (.there (.there (.there (.there (.there (.there .here))))))); rfl)
                  | ((with_reducible apply wpL_loadC (t := 34) kA34 HH.out); rfl; (first | exact .here | exact .there .here | exact .there (.there .here) | exact .there (.there (.there .here)) | exact .there (.there (.there (.there .here))) | exact .there (.there (.there (.there (.there .here)))) | exact .there (.there (.there (.there (.there (.there .here))))) | exact .there (.there (.there (.there (.there (.there (.there .here))))))); (first | rfl | exact Arr.len _ | (simp; done)); rfl)
                  | ((with_reducible apply wpL_loadArr (t := 41) kA41 HH.out); rfl; (first | exact .here | exact .there .here | exact .there (.there .here) | exact .there (.there (.there .here)) | exact .there (.there (.there (.there .here))) | exact .there (.there (.there (.there (.there .here)))) | exact .there (.there (.there (.there (.there (.there .here))))) | exact .there (.there (.there (.there (.there (.there (.there .here))))))); rfl)
                  | ((with_reducible apply wpL_loadC (t := 41) kA41 HH.out); rfl; (first | exact .here | exact .there .here | exact .there (.there .here) | exact .there (.there (.there .here)) | exact .there (.there (.there (.there .here))) | exact .there (.there (.there (.there (.there .here)))) | exact .there (.there (.there (.there (.there (.there .here))))) | exact .there (.there (.there (.there (.there (.there (.there .here))))))); (first | rfl | exact Arr.len _ | (simp; done)); rfl)
                  | ((with_reducible apply wpL_len (t := 30) Try.underlying30); rfl; rfl)
                  | ((with_reducible apply wpL_len (t := 46) Try.underlying46); rfl; rfl)
                  | ((with_reducible apply wpL_boxC (dst := some 3)); rfl; (exact HH.out); rfl; (intro g3_ w_ hq_; (try simp only [List.set_cons_zero, List.set_cons_succ] at hq_); clear HH; have HH := hid hq_; clear hq_))
                  | ((with_reducible apply wpL_allocC (dst := some 5) kZ41 HH.out); rfl; (intro g5_ w_ hq_; (try simp only [List.set_cons_zero, List.set_cons_succ] at hq_); clear HH; have HH := hid hq_; clear hq_))
                  | ((with_reducible apply wpL_allocC (dst := some 9) kZ34 HH.out); rfl; (intro g9_ w_ hq_; (try simp only [List.set_cons_zero, List.set_cons_succ] at hq_); clear HH; have HH := hid hq_; clear hq_))
                  | ((with_reducible apply wpL_allocC (dst := some 14) kZ34 HH.out); rfl; (intro g14_ w_ hq_; (try simp only [List.set_cons_zero, List.set_cons_succ] at hq_); clear HH; have HH := hid hq_; clear hq_))
                  | ((with_reducible apply wpL_allocC (dst := some 17) kZ41 HH.out); rfl; (intro g17_ w_ hq_; (try simp only [List.set_cons_zero, List.set_cons_succ] at hq_); clear HH; have HH := hid hq_; clear hq_))
                  | ((with_reducible apply wpL_storeArr (t := 34) kS34 HH.out); rfl; rfl; (first | exact .here | exact .there .here | exact .there (.there .here) | exact .there (.there (.there .here)) | exact .there (.there (.there (.there .here))) | exact .there (.there (.there (.there (.there .here)))) | exact .there (.there (.there (.there (.there (.there .here))))) | exact .there (.there (.there (.there (.there (.there (.there .here))))))); (first | rfl | exact Arr.len _ | (simp; done)); rfl; (intro w_ hq_; (try simp only [List.set_cons_zero, List.set_cons_succ] at hq_); clear HH; have HH := hid hq_; clear hq_))
                  | ((with_reducible apply wpL_storeC (t := 34)); rfl; rfl; (exact kS34); (exact HH.out); (first | exact .here | exact .there .here | exact .there (.there .here) | exact .there (.there (.there .here)) | exact .there (.there (.there (.there .here))) | exact .there (.there (.there (.there (.there .here)))) | exact .there (.there (.there (.there (.there (.there .here))))) | exact .there (.there (.there (.there (.there (.there (.there .here))))))); (first | rfl | exact Arr.len _ | (simp; done)); (first | rfl | (intro u_ hu_; simp only [List.mem_cons, List.not_mem_nil, or_false] at hu_; rcases hu_ with rfl | hu_; rfl) | exact byt_cell1 _ | exact cells_one _ | exact wrd_one _ | exact flat_cell1 _); (first | rfl | exact Arr.len _ | (simp; done)); rfl; (intro w_ hq_; (try simp only [List.set_cons_zero, List.set_cons_succ] at hq_); clear HH; have HH := hid hq_; clear hq_))
                  | ((with_reducible apply wpL_storeArr (t := 41) kS41 HH.out); rfl; rfl; (first | exact .here | exact .there .here | exact .there (.there .here) | exact .there (.there (.there .here)) | exact .there (.there (.there (.there .here))) | exact .there (.there (.there (.there (.there .here)))) | exact .there (.there (.there (.there (.there (.there .here))))) | exact .there (.there (.there (.there (.there (.there (.there .here))))))); (first | rfl | exact Arr.len _ | (simp; done)); rfl; (intro w_ hq_; (try simp only [List.set_cons_zero, List.set_cons_succ] at hq_); clear HH; have HH := hid hq_; clear hq_))
                  | ((with_reducible apply wpL_storeC (t := 41)); rfl; rfl; (exact kS41); (exact HH.out); (first | exact .here | exact .there .here | exact .there (.there .here) | exact .there (.there (.there .here)) | exact .there (.there (.there (.there .here))) | exact .there (.there (.there (.there (.there .here)))) | exact .there (.there (.there (.there (.there (.there .here))))) | exact .there (.there (.there (.there (.there (.there (.there .here))))))); (first | rfl | exact Arr.len _ | (simp; done)); (first | rfl | (intro u_ hu_; simp only [List.mem_cons, List.not_mem_nil, or_false] at hu_; rcases hu_ with rfl | hu_; rfl) | exact byt_cell1 _ | exact cells_one _ | exact wrd_one _ | exact flat_cell1 _); (first | rfl | exact Arr.len _ | (simp; done)); rfl; (intro w_ hq_; (try simp only [List.set_cons_zero, List.set_cons_succ] at hq_); clear HH; have HH := hid hq_; clear hq_))
                  | ((with_reducible apply wpL_move); rfl; rfl)
                  | ((with_reducible apply wpL_assign); rfl; rfl)
                  | ((with_reducible apply wpL_pick); rfl; rfl; rfl)
                  | ((with_reducible apply wpL_not); rfl; rfl)
                  | ((with_reducible apply wpL_cmp (b := true)); rfl; rfl; rfl; (first | rfl | assumption | (simp only [cmpB, decide_eq_true_eq, decide_eq_false_iff_not, beq_iff_eq, bne_iff_ne, ne_eq, beq_eq_false_iff_ne, bne_eq_false_iff_eq, gt_iff_lt, ge_iff_le]; omega) | (simp; omega)); rfl)
                  | ((with_reducible apply wpL_cmp (b := false)); rfl; rfl; rfl; (first | rfl | assumption | (simp only [cmpB, decide_eq_true_eq, decide_eq_false_iff_not, beq_iff_eq, bne_iff_ne, ne_eq, beq_eq_false_iff_ne, bne_eq_false_iff_eq, gt_iff_lt, ge_iff_le]; omega) | (simp; omega)); rfl)
                  | ((with_reducible apply wpL_cmp); rfl; rfl; rfl; rfl; rfl)
                  | ((with_reducible apply wpL_arith); rfl; rfl; rfl; (exact IntWalk.i64_in _ (by (try simp only [arithI]); omega)); rfl)); (try simp only [arithI, Act.put, Act.eval, List.setIfInBounds_toArray, List.set_cons_succ, List.set_cons_zero, Array.getD_eq_getD_getElem?, List.getElem?_toArray, List.getElem?_cons_succ, List.getElem?_cons_zero, Option.getD_some])))
            go_roundw
            case rel => exact ⟨k + 1, by omega, by go_num, HH.out⟩
            case measure => simp [intOf]; omega
          · have hcb : (c == 0) = false := by simpa using h0
            go_wp2_with (first
              | ((first
                  | ((with_reducible apply wpL_skip); rfl; skip)
                  | ((with_reducible apply wpL_nilCheck); rfl; rfl)
                  | ((with_reducible apply wpL_fieldAddr); (first | exact kF79_0 | exact kF79_1 | exact kF79_2); rfl; rfl)
                  | ((with_reducible apply wpL_load1 (t := 3) kO3 HH.out); rfl; (first | exact .here | exact .there .here | exact .there (.there .here) | exact .there (.there (.there .here)) | exact .there (.there (.there (.there .here))) | exact .there (.there (.there (.there (.there .here)))) | exact .there (.there (.there (.there (.there (.there .here))))) | exact .there (.there (.there (.there (.there (.there (.there .here))))))); rfl; rfl)
                  | ((with_reducible apply wpL_load1 (t := 30) kO30 HH.out); rfl; (first | exact .here | exact .there .here | exact .there (.there .here) | exact .there (.there (.there .here)) | exact .there (.there (.there (.there .here))) | exact .there (.there (.there (.there (.there .here)))) | exact .there (.there (.there (.there (.there (.there .here))))) | exact .there (.there (.there (.there (.there (.there (.there .here))))))); rfl; rfl)
                  | ((with_reducible apply wpL_loadArr (t := 34) kA34 HH.out); rfl; (first | exact .here | exact .there .here | exact .there (.there .here) | exact .there (.there (.there .here)) | exact .there (.there (.there (.there .here))) | exact .there (.there (.there (.there (.there .here)))) | exact .there (.there (.there (.there (.there (.there .here))))) | exact .there (.there (.there (.there (.there (.there (.there .here))))))); rfl)
                  | ((with_reducible apply wpL_loadC (t := 34) kA34 HH.out); rfl; (first | exact .here | exact .there .here | exact .there (.there .here) | exact .there (.there (.there .here)) | exact .there (.there (.there (.there .here))) | exact .there (.there (.there (.there (.there .here)))) | exact .there (.there (.there (.there (.there (.there .here))))) | exact .there (.there (.there (.there (.there (.there (.there .here))))))); (first | rfl | exact Arr.len _ | (simp; done)); rfl)
                  | ((with_reducible apply wpL_loadArr (t := 41) kA41 HH.out); rfl; (first | exact .here | exact .there .here | exact .there (.there .here) | exact .there (.there (.there .here)) | exact .there (.there (.there (.there .here))) | exact .there (.there (.there (.there (.there .here)))) | exact .there (.there (.there (.there (.there (.there .here))))) | exact .there (.there (.there (.there (.there (.there (.there .here))))))); rfl)
                  | ((with_reducible apply wpL_loadC (t := 41) kA41 HH.out); rfl; (first | exact .here | exact .there .here | exact .there (.there .here) | exact .there (.there (.there .here)) | exact .there (.there (.there (.there .here))) | exact .there (.there (.there (.there (.there .here)))) | exact .there (.there (.there (.there (.there (.there .here))))) | exact .there (.there (.there (.there (.there (.there (.there .here))))))); (first | rfl | exact Arr.len _ | (simp; done)); rfl)
                  | ((with_reducible apply wpL_len (t := 30) Try.underlying30); rfl; rfl)
                  | ((with_reducible apply wpL_len (t := 46) Try.underlying46); rfl; rfl)
                  | ((with_reducible apply wpL_boxC (dst := some 3)); rfl; (exact HH.out); rfl; (intro g3_ w_ hq_; (try simp only [List.set_cons_zero, List.set_cons_succ] at hq_); clear HH; have HH := hid hq_; clear hq_))
                  | ((with_reducible apply wpL_allocC (dst := some 5) kZ41 HH.out); rfl; (intro g5_ w_ hq_; (try simp only [List.set_cons_zero, List.set_cons_succ] at hq_); clear HH; have HH := hid hq_; clear hq_))
                  | ((with_reducible apply wpL_allocC (dst := some 9) kZ34 HH.out); rfl; (intro g9_ w_ hq_; (try simp only [List.set_cons_zero, List.set_cons_succ] at hq_); clear HH; have HH := hid hq_; clear hq_))
                  | ((with_reducible apply wpL_allocC (dst := some 14) kZ34 HH.out); rfl; (intro g14_ w_ hq_; (try simp only [List.set_cons_zero, List.set_cons_succ] at hq_); clear HH; have HH := hid hq_; clear hq_))
                  | ((with_reducible apply wpL_allocC (dst := some 17) kZ41 HH.out); rfl; (intro g17_ w_ hq_; (try simp only [List.set_cons_zero, List.set_cons_succ] at hq_); clear HH; have HH := hid hq_; clear hq_))
                  | ((with_reducible apply wpL_storeArr (t := 34) kS34 HH.out); rfl; rfl; (first | exact .here | exact .there .here | exact .there (.there .here) | exact .there (.there (.there .here)) | exact .there (.there (.there (.there .here))) | exact .there (.there (.there (.there (.there .here)))) | exact .there (.there (.there (.there (.there (.there .here))))) | exact .there (.there (.there (.there (.there (.there (.there .here))))))); (first | rfl | exact Arr.len _ | (simp; done)); rfl; (intro w_ hq_; (try simp only [List.set_cons_zero, List.set_cons_succ] at hq_); clear HH; have HH := hid hq_; clear hq_))
                  | ((with_reducible apply wpL_storeC (t := 34)); rfl; rfl; (exact kS34); (exact HH.out); (first | exact .here | exact .there .here | exact .there (.there .here) | exact .there (.there (.there .here)) | exact .there (.there (.there (.there .here))) | exact .there (.there (.there (.there (.there .here)))) | exact .there (.there (.there (.there (.there (.there .here))))) | exact .there (.there (.there (.there (.there (.there (.there .here))))))); (first | rfl | exact Arr.len _ | (simp; done)); (first | rfl | (intro u_ hu_; simp only [List.mem_cons, List.not_mem_nil, or_false] at hu_; rcases hu_ with rfl | hu_; rfl) | exact byt_cell1 _ | exact cells_one _ | exact wrd_one _ | exact flat_cell1 _); (first | rfl | exact Arr.len _ | (simp; done)); rfl; (intro w_ hq_; (try simp only [List.set_cons_zero, List.set_cons_succ] at hq_); clear HH; have HH := hid hq_; clear hq_))
                  | ((with_reducible apply wpL_storeArr (t := 41) kS41 HH.out); rfl; rfl; (first | exact .here | exact .there .here | exact .there (.there .here) | exact .there (.there (.there .here)) | exact .there (.there (.there (.there .here))) | exact .there (.there (.there (.there (.there .here)))) | exact .there (.there (.there (.there (.there (.there .here))))) | exact .there (.there (.there (.there (.there (.there (.there .here))))))); (first | rfl | exact Arr.len _ | (simp; done)); rfl; (intro w_ hq_; (try simp only [List.set_cons_zero, List.set_cons_succ] at hq_); clear HH; have HH := hid hq_; clear hq_))
                  | ((with_reducible apply wpL_storeC (t := 41)); rfl; rfl; (exact kS41); (exact HH.out); (first | exact .here | exact .there .here | exact .there (.there .here) | exact .there (.there (.there .here)) | exact .there (.there (.there (.there .here))) | exact .there (.there (.there (.there (.there .here)))) | exact .there (.there (.there (.there (.there (.there .here))))) | exact .there (.there (.there (.there (.there (.there (.there .here))))))); (first | rfl | exact Arr.len _ | (simp; done)); (first | rfl | (intro u_ hu_; simp only [List.mem_cons, List.not_mem_nil, or_false] at hu_; rcases hu_ with rfl | hu_; rfl) | exact byt_cell1 _ | exact cells_one _ | exact wrd_one _ | exact flat_cell1 _); (first | rfl | exact Arr.len _ | (simp; done)); rfl; (intro w_ hq_; (try simp only [List.set_cons_zero, List.set_cons_succ] at hq_); clear HH; have HH := hid hq_; clear hq_))
                  | ((with_reducible apply wpL_move); rfl; rfl)
                  | ((with_reducible apply wpL_assign); rfl; rfl)
                  | ((with_reducible apply wpL_pick); rfl; rfl; rfl)
                  | ((with_reducible apply wpL_not); rfl; rfl)
                  | ((with_reducible apply wpL_cmp (b := true)); rfl; rfl; rfl; (first | rfl | assumption | (simp only [cmpB, decide_eq_true_eq, decide_eq_false_iff_not, beq_iff_eq, bne_iff_ne, ne_eq, beq_eq_false_iff_ne, bne_eq_false_iff_eq, gt_iff_lt, ge_iff_le]; omega) | (simp; omega)); rfl)
                  | ((with_reducible apply wpL_cmp (b := false)); rfl; rfl; rfl; (first | rfl | assumption | (simp only [cmpB, decide_eq_true_eq, decide_eq_false_iff_not, beq_iff_eq, bne_iff_ne, ne_eq, beq_eq_false_iff_ne, bne_eq_false_iff_eq, gt_iff_lt, ge_iff_le]; omega) | (simp; omega)); rfl)
                  | ((with_reducible apply wpL_cmp); rfl; rfl; rfl; rfl; rfl)
                  | ((with_reducible apply wpL_arith); rfl; rfl; rfl; (exact IntWalk.i64_in _ (by (try simp only [arithI]); omega)); rfl)); (try simp only [arithI, Act.put, Act.eval, List.setIfInBounds_toArray, List.set_cons_succ, List.set_cons_zero, Array.getD_eq_getD_getElem?, List.getElem?_toArray, List.getElem?_cons_succ, List.getElem?_cons_zero, Option.getD_some])))
            by_cases hz : fc = 0
            · have HZ := hid (show (fc == 0) = true by simpa using hz)
              have HEQ := hid (show (vb == (fv == r)) = true by rw [← HVB.out]; unfold verB; rw [HFV.out, HFC.out, HZ.out]; simp)
              clear hz
              refine wp_region_F [(fun u_ => u_ = x.val), (fun u_ => u_ = (.int .i64 i)), (fun u_ => u_ = (.slice ap p.length cp)), (fun _ => True), (fun u_ => u_ = (.tuple #[fv.val, .int .i64 fc])), (fun u_ => u_ = (.tuple #[fv.val, .int .i64 fc])), (fun u_ => u_ = fv.val), (fun u_ => u_ = (.int .i64 fc)), (isPtr), (fun _ => True), (fun u_ => u_ = (.int .i64 fc))] (AJ w [] [(g9_, objC r.cells 34), (g5_, objC x.cells 41), (g3_, objC (claimCs i x (.slice ap p.length cp)) 79)] (rowsO 3 78 34 16 p.length (flat p) [rowA 34 ao1 cap1 l]) 8 9 14 34 (Arr.zero 16).cells fv.cells) (by kernel_rfl) (by kernel_rfl) rfl (HH.out.drew) ?_ ?_
              · refine eachD_cons ?_ (eachD_cons ?_ (eachD_cons ?_ (eachD_cons ?_ (eachD_cons ?_ (eachD_cons ?_ (eachD_cons ?_ (eachD_cons ?_ (eachD_cons ?_ (eachD_cons ?_ (eachD_cons ?_ (eachD_nil)))))))))))
                · intro li_ a_ w1 hc hi hJ hF hS
                  have e5 : a_.eval (.tmp 5) = (.pointer (some ⟨g5_, 0, none⟩)) := (hF.2.2 5 (notDst_of (by kernel_rfl))).trans rfl
                  refine wantD (by rfl) ?_
                  exact ok_load kA41 hJ e5 (Own.opt (.there .here)) (Arr.len _) ⟨hJ, rfl⟩
                · intro li_ a_ w1 hc hi hJ hF hS
                  have e6 : a_.eval (.tmp 6) = (.int .i64 i) := (hF.2.2 6 (notDst_of (by kernel_rfl))).trans rfl
                  refine wantD (by rfl) ?_
                  exact opF_val rfl (ex_move rfl w1) hJ e6
                · intro li_ a_ w1 hc hi hJ hF hS
                  have e7 : a_.eval (.tmp 7) = (.slice ap p.length cp) := (hF.2.2 7 (notDst_of (by kernel_rfl))).trans rfl
                  refine wantD (by rfl) ?_
                  exact opF_val rfl (ex_move rfl w1) hJ e7
                · intro li_ a_ w1 hc hi hJ hF hS
                  have l2 : li_ 2 = true := (hS ⟨2, .data⟩ (by simp) rfl).1
                  have e77 : a_.eval (.tmp 77) = (.slice ap p.length cp) := (hS ⟨2, .data⟩ (by simp) rfl).2 _ rfl
                  refine wantD (by rfl) ?_
                  exact opF_call kB49 rfl ((ownN_any w1 _ p (by rw [e77]; exact Holds.sl hJ HP.out) (by omega)).mono fun e w' ⟨a', c', he, hr, hb⟩ => ⟨_, he, AJ.addRow hJ hi (by decide) (by decide) (by decide) hb hr, trivial⟩)
                · intro li_ a_ w1 hc hi hJ hF hS
                  have l0 : li_ 0 = true := (hS ⟨0, .data⟩ (by simp) rfl).1
                  have l1 : li_ 1 = true := (hS ⟨1, .data⟩ (by simp) rfl).1
                  have l3 : li_ 3 = true := (hS ⟨3, .data⟩ (by simp) rfl).1
                  have e75 : a_.eval (.tmp 75) = x.val := (hS ⟨0, .data⟩ (by simp) rfl).2 _ rfl
                  have e76 : a_.eval (.tmp 76) = (.int .i64 i) := (hS ⟨1, .data⟩ (by simp) rfl).2 _ rfl
                  refine wantD (by rfl) ?_
                  exact opF_call (args := #[x.val, .int .i64 i, a_.eval (.tmp 78)]) kB54 (by show #[a_.eval (.tmp 75), a_.eval (.tmp 76), a_.eval (.tmp 78)] = _; rw [e75, e76]) ((from_any w1 _ x i p (AJ.slRow hJ l3) (by omega)).mono fun e w' ⟨he, hb⟩ => ⟨_, he, AJ.grow hJ hb, by rw [HFV.out, HFC.out]; rfl⟩)
                · intro li_ a_ w1 hc hi hJ hF hS
                  have l4 : li_ 4 = true := (hS ⟨4, .data⟩ (by simp) rfl).1
                  have e79 : a_.eval (.tmp 79) = (.tuple #[fv.val, .int .i64 fc]) := (hS ⟨4, .data⟩ (by simp) rfl).2 _ rfl
                  refine wantD (by rfl) ?_
                  exact opF_val rfl (ex_move rfl w1) hJ e79
                · intro li_ a_ w1 hc hi hJ hF hS
                  have l5 : li_ 5 = true := (hS ⟨5, .data⟩ (by simp) rfl).1
                  have e74 : a_.eval (.tmp 74) = (.tuple #[fv.val, .int .i64 fc]) := (hS ⟨5, .data⟩ (by simp) rfl).2 _ rfl
                  refine wantD (by rfl) ?_
                  exact opF_val rfl (ex_extract e74 rfl w1) hJ rfl
                · intro li_ a_ w1 hc hi hJ hF hS
                  have l5 : li_ 5 = true := (hS ⟨5, .data⟩ (by simp) rfl).1
                  have e74 : a_.eval (.tmp 74) = (.tuple #[fv.val, .int .i64 fc]) := (hS ⟨5, .data⟩ (by simp) rfl).2 _ rfl
                  refine wantD (by rfl) ?_
                  exact opF_val rfl (ex_extract e74 rfl w1) hJ rfl
                · intro li_ a_ w1 hc hi hJ hF hS
                  refine wantD (by rfl) ?_
                  exact aj_alloc kZ34 hJ hi (hc.off (j := 9) (by kernel_rfl) hi) (by decide) (fun _ => rfl)
                · intro li_ a_ w1 hc hi hJ hF hS
                  have l8 : li_ 8 = true := (hS ⟨8, .data⟩ (by simp) rfl).1
                  have l6 : li_ 6 = true := (hS ⟨6, .data⟩ (by simp) rfl).1
                  have l4 : li_ 4 = true := (hS ⟨4, .chain⟩ (by simp) rfl).1
                  have l0 : li_ 0 = true := (hS ⟨0, .phase⟩ (by simp) rfl).1
                  have l1 : li_ 1 = true := (hS ⟨1, .phase⟩ (by simp) rfl).1
                  have l2 : li_ 2 = true := (hS ⟨2, .phase⟩ (by simp) rfl).1
                  have l3 : li_ 3 = true := (hS ⟨3, .phase⟩ (by simp) rfl).1
                  have l5 : li_ 5 = true := (hS ⟨5, .phase⟩ (by simp) rfl).1
                  have e14 : (isPtr) (a_.eval (.tmp 14)) := (hS ⟨8, .data⟩ (by simp) rfl).2 _ rfl
                  have e80 : a_.eval (.tmp 80) = fv.val := (hS ⟨6, .data⟩ (by simp) rfl).2 _ rfl
                  refine wantD (by rfl) ?_
                  exact aj_store kS34 (Arr.len _) (Arr.len _) (cells_one _) hJ l8 hi (by decide) e14 e80 rfl
                · intro li_ a_ w1 hc hi hJ hF hS
                  have l7 : li_ 7 = true := (hS ⟨7, .data⟩ (by simp) rfl).1
                  have l9 : li_ 9 = true := (hS ⟨9, .chain⟩ (by simp) rfl).1
                  have l0 : li_ 0 = true := (hS ⟨0, .phase⟩ (by simp) rfl).1
                  have l1 : li_ 1 = true := (hS ⟨1, .phase⟩ (by simp) rfl).1
                  have l2 : li_ 2 = true := (hS ⟨2, .phase⟩ (by simp) rfl).1
                  have l3 : li_ 3 = true := (hS ⟨3, .phase⟩ (by simp) rfl).1
                  have l4 : li_ 4 = true := (hS ⟨4, .phase⟩ (by simp) rfl).1
                  have l5 : li_ 5 = true := (hS ⟨5, .phase⟩ (by simp) rfl).1
                  have l6 : li_ 6 = true := (hS ⟨6, .phase⟩ (by simp) rfl).1
                  have l8 : li_ 8 = true := (hS ⟨8, .phase⟩ (by simp) rfl).1
                  have e81 : a_.eval (.tmp 81) = (.int .i64 fc) := (hS ⟨7, .data⟩ (by simp) rfl).2 _ rfl
                  refine wantD (by rfl) ?_
                  exact opF_val rfl (ex_assign rfl w1) hJ e81
              intro v0_ h0_ v1_ h1_ v2_ h2_ v3_ h3_ v4_ h4_ v5_ h5_ v6_ h6_ v7_ h7_ v8_ h8_ v9_ h9_ v10_ h10_
              intro wq hq_
              have q_ : v0_ = x.val := h0_; clear h0_; subst q_
              have q_ : v1_ = (.int .i64 i) := h1_; clear h1_; subst q_
              have q_ : v2_ = (.slice ap p.length cp) := h2_; clear h2_; subst q_
              clear h3_
              have q_ : v4_ = (.tuple #[fv.val, .int .i64 fc]) := h4_; clear h4_; subst q_
              have q_ : v5_ = (.tuple #[fv.val, .int .i64 fc]) := h5_; clear h5_; subst q_
              have q_ : v6_ = fv.val := h6_; clear h6_; subst q_
              have q_ : v7_ = (.int .i64 fc) := h7_; clear h7_; subst q_
              obtain ⟨g14_, rfl⟩ := h8_
              clear h9_
              have q_ : v10_ = (.int .i64 fc) := h10_; clear h10_; subst q_
              have HQ := hid hq_; clear hq_
              simp only [putsD, Act.put, List.setIfInBounds_toArray, List.set_cons_succ, List.set_cons_zero]
              have hq2_ : Holds w [] [(g14_, objC fv.cells 34), (g9_, objC r.cells 34), (g5_, objC x.cells 41), (g3_, objC (claimCs i x (.slice ap p.length cp)) 79)] [rowA 34 ao1 cap1 l] wq := Holds.dropRow HQ.out
              clear HH HQ
              have HH := hid hq2_
              clear hq2_
              go_wp2_with (first
                | ((first
                    | ((with_reducible apply wpL_skip); rfl; skip)
                    | (go_at_call 55; (have hcall_ := hid (pairs_any _ (.slice ap p.length cp) x i p (HH.out.sl HP.out) (by omega))); (with_reducible refine hcall_.out.mono ?_); clear hcall_; rw [HFV.out, HFC.out]; rintro e_ w2_ ⟨ao3, cap3, rfl, hr_, hb_⟩; (have hq_ := HH.out.grow hb_); clear HH; have HH := hid hq_; clear hq_ hb_ hr_)
                    | ((with_reducible apply wpL_neqA (b := false) (p := fv) (q := fv) kR34); rfl; rfl; (exact arrNe _); rfl)
                    | ((with_reducible apply wpL_nilCheck); rfl; rfl)
                    | ((with_reducible apply wpL_fieldAddr); (first | exact kF79_0 | exact kF79_1 | exact kF79_2); rfl; rfl)
                    | ((with_reducible apply wpL_load1 (t := 3) kO3 HH.out); rfl; (first | exact .here | exact .there .here | exact .there (.there .here) | exact .there (.there (.there .here)) | exact .there (.there (.there (.there .here))) | exact .there (.there (.there (.there (.there .here)))) | exact .there (.there (.there (.there (.there (.there .here))))) | exact .there (.there (.there (.there (.there (.there (.there .here))))))); rfl; rfl)
                    | ((with_reducible apply wpL_load1 (t := 30) kO30 HH.out); rfl; (first | exact .here | exact .there .here | exact .there (.there .here) | exact .there (.there (.there .here)) | exact .there (.there (.there (.there .here))) | exact .there (.there (.there (.there (.there .here)))) | exact .there (.there (.there (.there (.there (.there .here))))) | exact .there (.there (.there (.there (.there (.there (.there .here))))))); rfl; rfl)
                    | ((with_reducible apply wpL_loadArr (t := 34) kA34 HH.out); rfl; (first | exact .here | exact .there .here | exact .there (.there .here) | exact .there (.there (.there .here)) | exact .there (.there (.there (.there .here))) | exact .there (.there (.there (.there (.there .here)))) | exact .there (.there (.there (.there (.there (.there .here))))) | exact .there (.there (.there (.there (.there (.there (.there .here))))))); rfl)
                    | ((with_reducible apply wpL_loadC (t := 34) kA34 HH.out); rfl; (first | exact .here | exact .there .here | exact .there (.there .here) | exact .there (.there (.there .here)) | exact .there (.there (.there (.there .here))) | exact .there (.there (.there (.there (.there .here)))) | exact .there (.there (.there (.there (.there (.there .here))))) | exact .there (.there (.there (.there (.there (.there (.there .here))))))); (first | rfl | exact Arr.len _ | (simp; done)); rfl)
                    | ((with_reducible apply wpL_loadArr (t := 41) kA41 HH.out); rfl; (first | exact .here | exact .there .here | exact .there (.there .here) | exact .there (.there (.there .here)) | exact .there (.there (.there (.there .here))) | exact .there (.there (.there (.there (.there .here)))) | exact .there (.there (.there (.there (.there (.there .here))))) | exact .there (.there (.there (.there (.there (.there (.there .here))))))); rfl)
                    | ((with_reducible apply wpL_loadC (t := 41) kA41 HH.out); rfl; (first | exact .here | exact .there .here | exact .there (.there .here) | exact .there (.there (.there .here)) | exact .there (.there (.there (.there .here))) | exact .there (.there (.there (.there (.there .here)))) | exact .there (.there (.there (.there (.there (.there .here))))) | exact .there (.there (.there (.there (.there (.there (.there .here))))))); (first | rfl | exact Arr.len _ | (simp; done)); rfl)
                    | ((with_reducible apply wpL_len (t := 30) Try.underlying30); rfl; rfl)
                    | ((with_reducible apply wpL_len (t := 46) Try.underlying46); rfl; rfl)
                    | ((with_reducible apply wpL_boxC (dst := some 3)); rfl; (exact HH.out); rfl; (intro g3_ w_ hq_; (try simp only [List.set_cons_zero, List.set_cons_succ] at hq_); clear HH; have HH := hid hq_; clear hq_))
                    | ((with_reducible apply wpL_allocC (dst := some 5) kZ41 HH.out); rfl; (intro g5_ w_ hq_; (try simp only [List.set_cons_zero, List.set_cons_succ] at hq_); clear HH; have HH := hid hq_; clear hq_))
                    | ((with_reducible apply wpL_allocC (dst := some 9) kZ34 HH.out); rfl; (intro g9_ w_ hq_; (try simp only [List.set_cons_zero, List.set_cons_succ] at hq_); clear HH; have HH := hid hq_; clear hq_))
                    | ((with_reducible apply wpL_allocC (dst := some 14) kZ34 HH.out); rfl; (intro g14_ w_ hq_; (try simp only [List.set_cons_zero, List.set_cons_succ] at hq_); clear HH; have HH := hid hq_; clear hq_))
                    | ((with_reducible apply wpL_allocC (dst := some 17) kZ41 HH.out); rfl; (intro g17_ w_ hq_; (try simp only [List.set_cons_zero, List.set_cons_succ] at hq_); clear HH; have HH := hid hq_; clear hq_))
                    | ((with_reducible apply wpL_storeArr (t := 34) kS34 HH.out); rfl; rfl; (first | exact .here | exact .there .here | exact .there (.there .here) | exact .there (.there (.there .here)) | exact .there (.there (.there (.there .here))) | exact .there (.there (.there (.there (.there .here)))) | exact .there (.there (.there (.there (.there (.there .here))))) | exact .there (.there (.there (.there (.there (.there (.there .here))))))); (first | rfl | exact Arr.len _ | (simp; done)); rfl; (intro w_ hq_; (try simp only [List.set_cons_zero, List.set_cons_succ] at hq_); clear HH; have HH := hid hq_; clear hq_))
                    | ((with_reducible apply wpL_storeC (t := 34)); rfl; rfl; (exact kS34); (exact HH.out); (first | exact .here | exact .there .here | exact .there (.there .here) | exact .there (.there (.there .here)) | exact .there (.there (.there (.there .here))) | exact .there (.there (.there (.there (.there .here)))) | exact .there (.there (.there (.there (.there (.there .here))))) | exact .there (.there (.there (.there (.there (.there (.there .here))))))); (first | rfl | exact Arr.len _ | (simp; done)); (first | rfl | (intro u_ hu_; simp only [List.mem_cons, List.not_mem_nil, or_false] at hu_; rcases hu_ with rfl | hu_; rfl) | exact byt_cell1 _ | exact cells_one _ | exact wrd_one _ | exact flat_cell1 _); (first | rfl | exact Arr.len _ | (simp; done)); rfl; (intro w_ hq_; (try simp only [List.set_cons_zero, List.set_cons_succ] at hq_); clear HH; have HH := hid hq_; clear hq_))
                    | ((with_reducible apply wpL_storeArr (t := 41) kS41 HH.out); rfl; rfl; (first | exact .here | exact .there .here | exact .there (.there .here) | exact .there (.there (.there .here)) | exact .there (.there (.there (.there .here))) | exact .there (.there (.there (.there (.there .here)))) | exact .there (.there (.there (.there (.there (.there .here))))) | exact .there (.there (.there (.there (.there (.there (.there .here))))))); (first | rfl | exact Arr.len _ | (simp; done)); rfl; (intro w_ hq_; (try simp only [List.set_cons_zero, List.set_cons_succ] at hq_); clear HH; have HH := hid hq_; clear hq_))
                    | ((with_reducible apply wpL_storeC (t := 41)); rfl; rfl; (exact kS41); (exact HH.out); (first | exact .here | exact .there .here | exact .there (.there .here) | exact .there (.there (.there .here)) | exact .there (.there (.there (.there .here))) | exact .there (.there (.there (.there (.there .here)))) | exact .there (.there (.there (.there (.there (.there .here))))) | exact .there (.there (.there (.there (.there (.there (.there .here))))))); (first | rfl | exact Arr.len _ | (simp; done)); (first | rfl | (intro u_ hu_; simp only [List.mem_cons, List.not_mem_nil, or_false] at hu_; rcases hu_ with rfl | hu_; rfl) | exact byt_cell1 _ | exact cells_one _ | exact wrd_one _ | exact flat_cell1 _); (first | rfl | exact Arr.len _ | (simp; done)); rfl; (intro w_ hq_; (try simp only [List.set_cons_zero, List.set_cons_succ] at hq_); clear HH; have HH := hid hq_; clear hq_))
                    | ((with_reducible apply wpL_move); rfl; rfl)
                    | ((with_reducible apply wpL_assign); rfl; rfl)
                    | ((with_reducible apply wpL_pick); rfl; rfl; rfl)
                    | ((with_reducible apply wpL_not); rfl; rfl)
                    | ((with_reducible apply wpL_cmp (b := true)); rfl; rfl; rfl; (first | rfl | assumption | (simp only [cmpB, decide_eq_true_eq, decide_eq_false_iff_not, beq_iff_eq, bne_iff_ne, ne_eq, beq_eq_false_iff_ne, bne_eq_false_iff_eq, gt_iff_lt, ge_iff_le]; omega) | (simp; omega)); rfl)
                    | ((with_reducible apply wpL_cmp (b := false)); rfl; rfl; rfl; (first | rfl | assumption | (simp only [cmpB, decide_eq_true_eq, decide_eq_false_iff_not, beq_iff_eq, bne_iff_ne, ne_eq, beq_eq_false_iff_ne, bne_eq_false_iff_eq, gt_iff_lt, ge_iff_le]; omega) | (simp; omega)); rfl)
                    | ((with_reducible apply wpL_cmp); rfl; rfl; rfl; rfl; rfl)
                    | ((with_reducible apply wpL_arith); rfl; rfl; rfl; (exact IntWalk.i64_in _ (by (try simp only [arithI]); omega)); rfl)); (try simp only [arithI, Act.put, Act.eval, List.setIfInBounds_toArray, List.set_cons_succ, List.set_cons_zero, Array.getD_eq_getD_getElem?, List.getElem?_toArray, List.getElem?_cons_succ, List.getElem?_cons_zero, Option.getD_some])))
              refine wp_region_R [Asr.is r.val, Asr.is x.val, Asr.is (.int .i64 i), Asr.is (.slice ap p.length cp), Asr.row w.heap.size 34 16 p.length (flat p), Asr.is (.bool vb), Asr.is (.int .i64 fc), Asr.is (.bool true), Asr.is (.bool true), Asr.is fv.val, Asr.is r.val, Asr.is (.bool (fv == r)), Asr.is (.bool (fv == r)), Asr.is (.bool true), Asr.is (.bool true)] HH.out (by kernel_rfl) (by kernel_rfl) rfl ?_ ?_
              · refine eachD_cons ?_ (eachD_cons ?_ (eachD_cons ?_ (eachD_cons ?_ (eachD_cons ?_ (eachD_cons ?_ (eachD_cons ?_ (eachD_cons ?_ (eachD_cons ?_ (eachD_cons ?_ (eachD_cons ?_ (eachD_cons ?_ (eachD_cons ?_ (eachD_cons ?_ (eachD_cons ?_ (eachD_nil)))))))))))))))
                · intro a_ w1 hI hF hS
                  have e9 : a_.eval (.tmp 9) = (.pointer (some ⟨g9_, 0, none⟩)) := (hF.2.2 9 (notDst_of (by kernel_rfl))).trans rfl
                  refine wantD (by rfl) ?_
                  exact op_val rfl (ex_loadA kA34 hI.1 e9 (by first | exact .here | exact .there .here | exact .there (.there .here) | exact .there (.there (.there .here)))) rfl
                · intro a_ w1 hI hF hS
                  have e5 : a_.eval (.tmp 5) = (.pointer (some ⟨g5_, 0, none⟩)) := (hF.2.2 5 (notDst_of (by kernel_rfl))).trans rfl
                  refine wantD (by rfl) ?_
                  exact op_val rfl (ex_loadA kA41 hI.1 e5 (by first | exact .here | exact .there .here | exact .there (.there .here) | exact .there (.there (.there .here)))) rfl
                · intro a_ w1 hI hF hS
                  have e6 : a_.eval (.tmp 6) = (.int .i64 i) := (hF.2.2 6 (notDst_of (by kernel_rfl))).trans rfl
                  refine wantD (by rfl) ?_
                  exact op_val rfl (ex_move rfl w1) e6
                · intro a_ w1 hI hF hS
                  have e7 : a_.eval (.tmp 7) = (.slice ap p.length cp) := (hF.2.2 7 (notDst_of (by kernel_rfl))).trans rfl
                  refine wantD (by rfl) ?_
                  exact op_val rfl (ex_move rfl w1) e7
                · intro a_ w1 hI hF hS
                  have e101 : a_.eval (.tmp 101) = (.slice ap p.length cp) := hS ⟨3, .data⟩ (by simp) rfl _ rfl
                  refine wantD (by rfl) ?_
                  exact op_call kB49 rfl ((ownN_any w1 _ p (by rw [e101]; exact Holds.sl hI.1 HP.out) (by omega)).mono fun e w' ⟨a', c', he, hr, hb⟩ => ⟨_, he, hb, row_base hr hI.1.size⟩)
                · intro a_ w1 hI hF hS
                  have e98 : a_.eval (.tmp 98) = r.val := hS ⟨0, .data⟩ (by simp) rfl _ rfl
                  have e99 : a_.eval (.tmp 99) = x.val := hS ⟨1, .data⟩ (by simp) rfl _ rfl
                  have e100 : a_.eval (.tmp 100) = (.int .i64 i) := hS ⟨2, .data⟩ (by simp) rfl _ rfl
                  have e102 : (Asr.row w.heap.size 34 16 p.length (flat p)).p (a_.eval (.tmp 102)) w1 := hS ⟨4, .data⟩ (by simp) rfl _ rfl
                  refine wantD (by rfl) ?_
                  exact op_call (args := #[r.val, x.val, .int .i64 i, a_.eval (.tmp 102)]) kB53 (by show #[a_.eval (.tmp 98), a_.eval (.tmp 99), a_.eval (.tmp 100), a_.eval (.tmp 102)] = _; rw [e98, e99, e100]) ((verify_any w1 _ r x i p (Sl.of_row e102) (by omega)).mono fun e w' ⟨he, hb⟩ => ⟨_, he, hb, by rw [HVB.out]; rfl⟩)
                · intro a_ w1 hI hF hS
                  have e15 : a_.eval (.tmp 15) = (.int .i64 fc) := (hF.2.2 15 (notDst_of (by kernel_rfl))).trans rfl
                  refine wantD (by rfl) ?_
                  exact op_val rfl (ex_move rfl w1) e15
                · intro a_ w1 hI hF hS
                  have e104 : a_.eval (.tmp 104) = (.int .i64 fc) := hS ⟨6, .data⟩ (by simp) rfl _ rfl
                  refine wantD (by rfl) ?_
                  exact op_val rfl (ex_cmp (b := true) rfl e104 (by rfl) (by simp only [cmpB]; exact HZ.out) w1) rfl
                · intro a_ w1 hI hF hS
                  have e105 : a_.eval (.tmp 105) = (.bool true) := hS ⟨7, .data⟩ (by simp) rfl _ rfl
                  refine wantD (by rfl) ?_
                  exact op_val rfl (ex_move rfl w1) e105
                · intro a_ w1 hI hF hS
                  have e14 : a_.eval (.tmp 14) = (.pointer (some ⟨g14_, 0, none⟩)) := (hF.2.2 14 (notDst_of (by kernel_rfl))).trans rfl
                  have e106 : a_.eval (.tmp 106) = (.bool true) := hS ⟨8, .guard⟩ (by simp) rfl _ rfl
                  refine wantD (wanted_of (j := 8) (b := true) (want := true) (by rfl) (by rfl) e106 rfl) ?_
                  exact op_val rfl (ex_loadA kA34 hI.1 e14 (by first | exact .here | exact .there .here | exact .there (.there .here) | exact .there (.there (.there .here)))) rfl
                · intro a_ w1 hI hF hS
                  have e9 : a_.eval (.tmp 9) = (.pointer (some ⟨g9_, 0, none⟩)) := (hF.2.2 9 (notDst_of (by kernel_rfl))).trans rfl
                  have e106 : a_.eval (.tmp 106) = (.bool true) := hS ⟨8, .guard⟩ (by simp) rfl _ rfl
                  refine wantD (wanted_of (j := 8) (b := true) (want := true) (by rfl) (by rfl) e106 rfl) ?_
                  exact op_val rfl (ex_loadA kA34 hI.1 e9 (by first | exact .here | exact .there .here | exact .there (.there .here) | exact .there (.there (.there .here)))) rfl
                · intro a_ w1 hI hF hS
                  have e107 : a_.eval (.tmp 107) = fv.val := hS ⟨9, .data⟩ (by simp) rfl _ rfl
                  have e108 : a_.eval (.tmp 108) = r.val := hS ⟨10, .data⟩ (by simp) rfl _ rfl
                  have e106 : a_.eval (.tmp 106) = (.bool true) := hS ⟨8, .guard⟩ (by simp) rfl _ rfl
                  refine wantD (wanted_of (j := 8) (b := true) (want := true) (by rfl) (by rfl) e106 rfl) ?_
                  exact op_val rfl (ex_eql_arr Try.underlying34 Try.underlying5 (by kernel_rfl) (by kernel_rfl) e107 e108 w1) rfl
                · intro a_ w1 hI hF hS
                  have e106 : a_.eval (.tmp 106) = (.bool true) := hS ⟨8, .data⟩ (by simp) rfl _ rfl
                  have e109 : a_.eval (.tmp 109) = (.bool (fv == r)) := hS ⟨11, .data⟩ (by simp) rfl _ rfl
                  refine wantD (by rfl) ?_
                  exact op_val rfl (ex_pick e106 rfl w1) e109
                · intro a_ w1 hI hF hS
                  have e103 : a_.eval (.tmp 103) = (.bool vb) := hS ⟨5, .data⟩ (by simp) rfl _ rfl
                  have e110 : a_.eval (.tmp 110) = (.bool (fv == r)) := hS ⟨12, .data⟩ (by simp) rfl _ rfl
                  refine wantD (by rfl) ?_
                  exact op_val rfl (ex_eqBool Try.underlying4 e103 e110 HEQ.out w1) rfl
                · intro a_ w1 hI hF hS
                  have e111 : a_.eval (.tmp 111) = (.bool true) := hS ⟨13, .data⟩ (by simp) rfl _ rfl
                  refine wantD (by rfl) ?_
                  exact op_val rfl (ex_assign rfl w1) e111
              intro wq hq_ hb_
              intro v0_ h0_ v1_ h1_ v2_ h2_ v3_ h3_ v4_ h4_ v5_ h5_ v6_ h6_ v7_ h7_ v8_ h8_ v9_ h9_ v10_ h10_ v11_ h11_ v12_ h12_ v13_ h13_ v14_ h14_
              have q_ : v0_ = r.val := h0_; clear h0_; subst q_
              have q_ : v1_ = x.val := h1_; clear h1_; subst q_
              have q_ : v2_ = (.int .i64 i) := h2_; clear h2_; subst q_
              have q_ : v3_ = (.slice ap p.length cp) := h3_; clear h3_; subst q_
              have K4 := hid h4_; clear h4_
              have q_ : v5_ = (.bool vb) := h5_; clear h5_; subst q_
              have q_ : v6_ = (.int .i64 fc) := h6_; clear h6_; subst q_
              have q_ : v7_ = (.bool true) := h7_; clear h7_; subst q_
              have q_ : v8_ = (.bool true) := h8_; clear h8_; subst q_
              have q_ : v9_ = fv.val := h9_; clear h9_; subst q_
              have q_ : v10_ = r.val := h10_; clear h10_; subst q_
              have q_ : v11_ = (.bool (fv == r)) := h11_; clear h11_; subst q_
              have q_ : v12_ = (.bool (fv == r)) := h12_; clear h12_; subst q_
              have q_ : v13_ = (.bool true) := h13_; clear h13_; subst q_
              have q_ : v14_ = (.bool true) := h14_; clear h14_; subst q_
              simp only [endD, putsD, Act.put, List.setIfInBounds_toArray, List.set_cons_succ, List.set_cons_zero]
              have HQ := hid hq_; clear hq_
              have HB_ := hid hb_; clear hb_
              go_wp2
              go_ret
              exact RetB.mk rfl HQ.out.dropRow.dropBlk.dropBlk.dropBlk.dropBlk.below
            · have HZ := hid (show (fc == 0) = false by simpa using hz)
              have HEQ := hid (show (vb == false) = true by rw [← HVB.out]; unfold verB; rw [HFC.out, HZ.out]; rfl)
              clear hz
              refine wp_region_F [(fun u_ => u_ = x.val), (fun u_ => u_ = (.int .i64 i)), (fun u_ => u_ = (.slice ap p.length cp)), (fun _ => True), (fun u_ => u_ = (.tuple #[fv.val, .int .i64 fc])), (fun u_ => u_ = (.tuple #[fv.val, .int .i64 fc])), (fun u_ => u_ = fv.val), (fun u_ => u_ = (.int .i64 fc)), (isPtr), (fun _ => True), (fun u_ => u_ = (.int .i64 fc))] (AJ w [] [(g9_, objC r.cells 34), (g5_, objC x.cells 41), (g3_, objC (claimCs i x (.slice ap p.length cp)) 79)] (rowsO 3 78 34 16 p.length (flat p) [rowA 34 ao1 cap1 l]) 8 9 14 34 (Arr.zero 16).cells fv.cells) (by kernel_rfl) (by kernel_rfl) rfl (HH.out.drew) ?_ ?_
              · refine eachD_cons ?_ (eachD_cons ?_ (eachD_cons ?_ (eachD_cons ?_ (eachD_cons ?_ (eachD_cons ?_ (eachD_cons ?_ (eachD_cons ?_ (eachD_cons ?_ (eachD_cons ?_ (eachD_cons ?_ (eachD_nil)))))))))))
                · intro li_ a_ w1 hc hi hJ hF hS
                  have e5 : a_.eval (.tmp 5) = (.pointer (some ⟨g5_, 0, none⟩)) := (hF.2.2 5 (notDst_of (by kernel_rfl))).trans rfl
                  refine wantD (by rfl) ?_
                  exact ok_load kA41 hJ e5 (Own.opt (.there .here)) (Arr.len _) ⟨hJ, rfl⟩
                · intro li_ a_ w1 hc hi hJ hF hS
                  have e6 : a_.eval (.tmp 6) = (.int .i64 i) := (hF.2.2 6 (notDst_of (by kernel_rfl))).trans rfl
                  refine wantD (by rfl) ?_
                  exact opF_val rfl (ex_move rfl w1) hJ e6
                · intro li_ a_ w1 hc hi hJ hF hS
                  have e7 : a_.eval (.tmp 7) = (.slice ap p.length cp) := (hF.2.2 7 (notDst_of (by kernel_rfl))).trans rfl
                  refine wantD (by rfl) ?_
                  exact opF_val rfl (ex_move rfl w1) hJ e7
                · intro li_ a_ w1 hc hi hJ hF hS
                  have l2 : li_ 2 = true := (hS ⟨2, .data⟩ (by simp) rfl).1
                  have e77 : a_.eval (.tmp 77) = (.slice ap p.length cp) := (hS ⟨2, .data⟩ (by simp) rfl).2 _ rfl
                  refine wantD (by rfl) ?_
                  exact opF_call kB49 rfl ((ownN_any w1 _ p (by rw [e77]; exact Holds.sl hJ HP.out) (by omega)).mono fun e w' ⟨a', c', he, hr, hb⟩ => ⟨_, he, AJ.addRow hJ hi (by decide) (by decide) (by decide) hb hr, trivial⟩)
                · intro li_ a_ w1 hc hi hJ hF hS
                  have l0 : li_ 0 = true := (hS ⟨0, .data⟩ (by simp) rfl).1
                  have l1 : li_ 1 = true := (hS ⟨1, .data⟩ (by simp) rfl).1
                  have l3 : li_ 3 = true := (hS ⟨3, .data⟩ (by simp) rfl).1
                  have e75 : a_.eval (.tmp 75) = x.val := (hS ⟨0, .data⟩ (by simp) rfl).2 _ rfl
                  have e76 : a_.eval (.tmp 76) = (.int .i64 i) := (hS ⟨1, .data⟩ (by simp) rfl).2 _ rfl
                  refine wantD (by rfl) ?_
                  exact opF_call (args := #[x.val, .int .i64 i, a_.eval (.tmp 78)]) kB54 (by show #[a_.eval (.tmp 75), a_.eval (.tmp 76), a_.eval (.tmp 78)] = _; rw [e75, e76]) ((from_any w1 _ x i p (AJ.slRow hJ l3) (by omega)).mono fun e w' ⟨he, hb⟩ => ⟨_, he, AJ.grow hJ hb, by rw [HFV.out, HFC.out]; rfl⟩)
                · intro li_ a_ w1 hc hi hJ hF hS
                  have l4 : li_ 4 = true := (hS ⟨4, .data⟩ (by simp) rfl).1
                  have e79 : a_.eval (.tmp 79) = (.tuple #[fv.val, .int .i64 fc]) := (hS ⟨4, .data⟩ (by simp) rfl).2 _ rfl
                  refine wantD (by rfl) ?_
                  exact opF_val rfl (ex_move rfl w1) hJ e79
                · intro li_ a_ w1 hc hi hJ hF hS
                  have l5 : li_ 5 = true := (hS ⟨5, .data⟩ (by simp) rfl).1
                  have e74 : a_.eval (.tmp 74) = (.tuple #[fv.val, .int .i64 fc]) := (hS ⟨5, .data⟩ (by simp) rfl).2 _ rfl
                  refine wantD (by rfl) ?_
                  exact opF_val rfl (ex_extract e74 rfl w1) hJ rfl
                · intro li_ a_ w1 hc hi hJ hF hS
                  have l5 : li_ 5 = true := (hS ⟨5, .data⟩ (by simp) rfl).1
                  have e74 : a_.eval (.tmp 74) = (.tuple #[fv.val, .int .i64 fc]) := (hS ⟨5, .data⟩ (by simp) rfl).2 _ rfl
                  refine wantD (by rfl) ?_
                  exact opF_val rfl (ex_extract e74 rfl w1) hJ rfl
                · intro li_ a_ w1 hc hi hJ hF hS
                  refine wantD (by rfl) ?_
                  exact aj_alloc kZ34 hJ hi (hc.off (j := 9) (by kernel_rfl) hi) (by decide) (fun _ => rfl)
                · intro li_ a_ w1 hc hi hJ hF hS
                  have l8 : li_ 8 = true := (hS ⟨8, .data⟩ (by simp) rfl).1
                  have l6 : li_ 6 = true := (hS ⟨6, .data⟩ (by simp) rfl).1
                  have l4 : li_ 4 = true := (hS ⟨4, .chain⟩ (by simp) rfl).1
                  have l0 : li_ 0 = true := (hS ⟨0, .phase⟩ (by simp) rfl).1
                  have l1 : li_ 1 = true := (hS ⟨1, .phase⟩ (by simp) rfl).1
                  have l2 : li_ 2 = true := (hS ⟨2, .phase⟩ (by simp) rfl).1
                  have l3 : li_ 3 = true := (hS ⟨3, .phase⟩ (by simp) rfl).1
                  have l5 : li_ 5 = true := (hS ⟨5, .phase⟩ (by simp) rfl).1
                  have e14 : (isPtr) (a_.eval (.tmp 14)) := (hS ⟨8, .data⟩ (by simp) rfl).2 _ rfl
                  have e80 : a_.eval (.tmp 80) = fv.val := (hS ⟨6, .data⟩ (by simp) rfl).2 _ rfl
                  refine wantD (by rfl) ?_
                  exact aj_store kS34 (Arr.len _) (Arr.len _) (cells_one _) hJ l8 hi (by decide) e14 e80 rfl
                · intro li_ a_ w1 hc hi hJ hF hS
                  have l7 : li_ 7 = true := (hS ⟨7, .data⟩ (by simp) rfl).1
                  have l9 : li_ 9 = true := (hS ⟨9, .chain⟩ (by simp) rfl).1
                  have l0 : li_ 0 = true := (hS ⟨0, .phase⟩ (by simp) rfl).1
                  have l1 : li_ 1 = true := (hS ⟨1, .phase⟩ (by simp) rfl).1
                  have l2 : li_ 2 = true := (hS ⟨2, .phase⟩ (by simp) rfl).1
                  have l3 : li_ 3 = true := (hS ⟨3, .phase⟩ (by simp) rfl).1
                  have l4 : li_ 4 = true := (hS ⟨4, .phase⟩ (by simp) rfl).1
                  have l5 : li_ 5 = true := (hS ⟨5, .phase⟩ (by simp) rfl).1
                  have l6 : li_ 6 = true := (hS ⟨6, .phase⟩ (by simp) rfl).1
                  have l8 : li_ 8 = true := (hS ⟨8, .phase⟩ (by simp) rfl).1
                  have e81 : a_.eval (.tmp 81) = (.int .i64 fc) := (hS ⟨7, .data⟩ (by simp) rfl).2 _ rfl
                  refine wantD (by rfl) ?_
                  exact opF_val rfl (ex_assign rfl w1) hJ e81
              intro v0_ h0_ v1_ h1_ v2_ h2_ v3_ h3_ v4_ h4_ v5_ h5_ v6_ h6_ v7_ h7_ v8_ h8_ v9_ h9_ v10_ h10_
              intro wq hq_
              have q_ : v0_ = x.val := h0_; clear h0_; subst q_
              have q_ : v1_ = (.int .i64 i) := h1_; clear h1_; subst q_
              have q_ : v2_ = (.slice ap p.length cp) := h2_; clear h2_; subst q_
              clear h3_
              have q_ : v4_ = (.tuple #[fv.val, .int .i64 fc]) := h4_; clear h4_; subst q_
              have q_ : v5_ = (.tuple #[fv.val, .int .i64 fc]) := h5_; clear h5_; subst q_
              have q_ : v6_ = fv.val := h6_; clear h6_; subst q_
              have q_ : v7_ = (.int .i64 fc) := h7_; clear h7_; subst q_
              obtain ⟨g14_, rfl⟩ := h8_
              clear h9_
              have q_ : v10_ = (.int .i64 fc) := h10_; clear h10_; subst q_
              have HQ := hid hq_; clear hq_
              simp only [putsD, Act.put, List.setIfInBounds_toArray, List.set_cons_succ, List.set_cons_zero]
              have hq2_ : Holds w [] [(g14_, objC fv.cells 34), (g9_, objC r.cells 34), (g5_, objC x.cells 41), (g3_, objC (claimCs i x (.slice ap p.length cp)) 79)] [rowA 34 ao1 cap1 l] wq := Holds.dropRow HQ.out
              clear HH HQ
              have HH := hid hq2_
              clear hq2_
              go_wp2_with (first
                | ((first
                    | ((with_reducible apply wpL_skip); rfl; skip)
                    | (go_at_call 55; (have hcall_ := hid (pairs_any _ (.slice ap p.length cp) x i p (HH.out.sl HP.out) (by omega))); (with_reducible refine hcall_.out.mono ?_); clear hcall_; rw [HFV.out, HFC.out]; rintro e_ w2_ ⟨ao3, cap3, rfl, hr_, hb_⟩; (have hq_ := HH.out.grow hb_); clear HH; have HH := hid hq_; clear hq_ hb_ hr_)
                    | ((with_reducible apply wpL_neqA (b := false) (p := fv) (q := fv) kR34); rfl; rfl; (exact arrNe _); rfl)
                    | ((with_reducible apply wpL_nilCheck); rfl; rfl)
                    | ((with_reducible apply wpL_fieldAddr); (first | exact kF79_0 | exact kF79_1 | exact kF79_2); rfl; rfl)
                    | ((with_reducible apply wpL_load1 (t := 3) kO3 HH.out); rfl; (first | exact .here | exact .there .here | exact .there (.there .here) | exact .there (.there (.there .here)) | exact .there (.there (.there (.there .here))) | exact .there (.there (.there (.there (.there .here)))) | exact .there (.there (.there (.there (.there (.there .here))))) | exact .there (.there (.there (.there (.there (.there (.there .here))))))); rfl; rfl)
                    | ((with_reducible apply wpL_load1 (t := 30) kO30 HH.out); rfl; (first | exact .here | exact .there .here | exact .there (.there .here) | exact .there (.there (.there .here)) | exact .there (.there (.there (.there .here))) | exact .there (.there (.there (.there (.there .here)))) | exact .there (.there (.there (.there (.there (.there .here))))) | exact .there (.there (.there (.there (.there (.there (.there .here))))))); rfl; rfl)
                    | ((with_reducible apply wpL_loadArr (t := 34) kA34 HH.out); rfl; (first | exact .here | exact .there .here | exact .there (.there .here) | exact .there (.there (.there .here)) | exact .there (.there (.there (.there .here))) | exact .there (.there (.there (.there (.there .here)))) | exact .there (.there (.there (.there (.there (.there .here))))) | exact .there (.there (.there (.there (.there (.there (.there .here))))))); rfl)
                    | ((with_reducible apply wpL_loadC (t := 34) kA34 HH.out); rfl; (first | exact .here | exact .there .here | exact .there (.there .here) | exact .there (.there (.there .here)) | exact .there (.there (.there (.there .here))) | exact .there (.there (.there (.there (.there .here)))) | exact .there (.there (.there (.there (.there (.there .here))))) | exact .there (.there (.there (.there (.there (.there (.there .here))))))); (first | rfl | exact Arr.len _ | (simp; done)); rfl)
                    | ((with_reducible apply wpL_loadArr (t := 41) kA41 HH.out); rfl; (first | exact .here | exact .there .here | exact .there (.there .here) | exact .there (.there (.there .here)) | exact .there (.there (.there (.there .here))) | exact .there (.there (.there (.there (.there .here)))) | exact .there (.there (.there (.there (.there (.there .here))))) | exact .there (.there (.there (.there (.there (.there (.there .here))))))); rfl)
                    | ((with_reducible apply wpL_loadC (t := 41) kA41 HH.out); rfl; (first | exact .here | exact .there .here | exact .there (.there .here) | exact .there (.there (.there .here)) | exact .there (.there (.there (.there .here))) | exact .there (.there (.there (.there (.there .here)))) | exact .there (.there (.there (.there (.there (.there .here))))) | exact .there (.there (.there (.there (.there (.there (.there .here))))))); (first | rfl | exact Arr.len _ | (simp; done)); rfl)
                    | ((with_reducible apply wpL_len (t := 30) Try.underlying30); rfl; rfl)
                    | ((with_reducible apply wpL_len (t := 46) Try.underlying46); rfl; rfl)
                    | ((with_reducible apply wpL_boxC (dst := some 3)); rfl; (exact HH.out); rfl; (intro g3_ w_ hq_; (try simp only [List.set_cons_zero, List.set_cons_succ] at hq_); clear HH; have HH := hid hq_; clear hq_))
                    | ((with_reducible apply wpL_allocC (dst := some 5) kZ41 HH.out); rfl; (intro g5_ w_ hq_; (try simp only [List.set_cons_zero, List.set_cons_succ] at hq_); clear HH; have HH := hid hq_; clear hq_))
                    | ((with_reducible apply wpL_allocC (dst := some 9) kZ34 HH.out); rfl; (intro g9_ w_ hq_; (try simp only [List.set_cons_zero, List.set_cons_succ] at hq_); clear HH; have HH := hid hq_; clear hq_))
                    | ((with_reducible apply wpL_allocC (dst := some 14) kZ34 HH.out); rfl; (intro g14_ w_ hq_; (try simp only [List.set_cons_zero, List.set_cons_succ] at hq_); clear HH; have HH := hid hq_; clear hq_))
                    | ((with_reducible apply wpL_allocC (dst := some 17) kZ41 HH.out); rfl; (intro g17_ w_ hq_; (try simp only [List.set_cons_zero, List.set_cons_succ] at hq_); clear HH; have HH := hid hq_; clear hq_))
                    | ((with_reducible apply wpL_storeArr (t := 34) kS34 HH.out); rfl; rfl; (first | exact .here | exact .there .here | exact .there (.there .here) | exact .there (.there (.there .here)) | exact .there (.there (.there (.there .here))) | exact .there (.there (.there (.there (.there .here)))) | exact .there (.there (.there (.there (.there (.there .here))))) | exact .there (.there (.there (.there (.there (.there (.there .here))))))); (first | rfl | exact Arr.len _ | (simp; done)); rfl; (intro w_ hq_; (try simp only [List.set_cons_zero, List.set_cons_succ] at hq_); clear HH; have HH := hid hq_; clear hq_))
                    | ((with_reducible apply wpL_storeC (t := 34)); rfl; rfl; (exact kS34); (exact HH.out); (first | exact .here | exact .there .here | exact .there (.there .here) | exact .there (.there (.there .here)) | exact .there (.there (.there (.there .here))) | exact .there (.there (.there (.there (.there .here)))) | exact .there (.there (.there (.there (.there (.there .here))))) | exact .there (.there (.there (.there (.there (.there (.there .here))))))); (first | rfl | exact Arr.len _ | (simp; done)); (first | rfl | (intro u_ hu_; simp only [List.mem_cons, List.not_mem_nil, or_false] at hu_; rcases hu_ with rfl | hu_; rfl) | exact byt_cell1 _ | exact cells_one _ | exact wrd_one _ | exact flat_cell1 _); (first | rfl | exact Arr.len _ | (simp; done)); rfl; (intro w_ hq_; (try simp only [List.set_cons_zero, List.set_cons_succ] at hq_); clear HH; have HH := hid hq_; clear hq_))
                    | ((with_reducible apply wpL_storeArr (t := 41) kS41 HH.out); rfl; rfl; (first | exact .here | exact .there .here | exact .there (.there .here) | exact .there (.there (.there .here)) | exact .there (.there (.there (.there .here))) | exact .there (.there (.there (.there (.there .here)))) | exact .there (.there (.there (.there (.there (.there .here))))) | exact .there (.there (.there (.there (.there (.there (.there .here))))))); (first | rfl | exact Arr.len _ | (simp; done)); rfl; (intro w_ hq_; (try simp only [List.set_cons_zero, List.set_cons_succ] at hq_); clear HH; have HH := hid hq_; clear hq_))
                    | ((with_reducible apply wpL_storeC (t := 41)); rfl; rfl; (exact kS41); (exact HH.out); (first | exact .here | exact .there .here | exact .there (.there .here) | exact .there (.there (.there .here)) | exact .there (.there (.there (.there .here))) | exact .there (.there (.there (.there (.there .here)))) | exact .there (.there (.there (.there (.there (.there .here))))) | exact .there (.there (.there (.there (.there (.there (.there .here))))))); (first | rfl | exact Arr.len _ | (simp; done)); (first | rfl | (intro u_ hu_; simp only [List.mem_cons, List.not_mem_nil, or_false] at hu_; rcases hu_ with rfl | hu_; rfl) | exact byt_cell1 _ | exact cells_one _ | exact wrd_one _ | exact flat_cell1 _); (first | rfl | exact Arr.len _ | (simp; done)); rfl; (intro w_ hq_; (try simp only [List.set_cons_zero, List.set_cons_succ] at hq_); clear HH; have HH := hid hq_; clear hq_))
                    | ((with_reducible apply wpL_move); rfl; rfl)
                    | ((with_reducible apply wpL_assign); rfl; rfl)
                    | ((with_reducible apply wpL_pick); rfl; rfl; rfl)
                    | ((with_reducible apply wpL_not); rfl; rfl)
                    | ((with_reducible apply wpL_cmp (b := true)); rfl; rfl; rfl; (first | rfl | assumption | (simp only [cmpB, decide_eq_true_eq, decide_eq_false_iff_not, beq_iff_eq, bne_iff_ne, ne_eq, beq_eq_false_iff_ne, bne_eq_false_iff_eq, gt_iff_lt, ge_iff_le]; omega) | (simp; omega)); rfl)
                    | ((with_reducible apply wpL_cmp (b := false)); rfl; rfl; rfl; (first | rfl | assumption | (simp only [cmpB, decide_eq_true_eq, decide_eq_false_iff_not, beq_iff_eq, bne_iff_ne, ne_eq, beq_eq_false_iff_ne, bne_eq_false_iff_eq, gt_iff_lt, ge_iff_le]; omega) | (simp; omega)); rfl)
                    | ((with_reducible apply wpL_cmp); rfl; rfl; rfl; rfl; rfl)
                    | ((with_reducible apply wpL_arith); rfl; rfl; rfl; (exact IntWalk.i64_in _ (by (try simp only [arithI]); omega)); rfl)); (try simp only [arithI, Act.put, Act.eval, List.setIfInBounds_toArray, List.set_cons_succ, List.set_cons_zero, Array.getD_eq_getD_getElem?, List.getElem?_toArray, List.getElem?_cons_succ, List.getElem?_cons_zero, Option.getD_some])))
              refine wp_region_R [Asr.is r.val, Asr.is x.val, Asr.is (.int .i64 i), Asr.is (.slice ap p.length cp), Asr.row w.heap.size 34 16 p.length (flat p), Asr.is (.bool vb), Asr.is (.int .i64 fc), Asr.is (.bool false), Asr.is (.bool false), Asr.any, Asr.any, Asr.any, Asr.is (.bool false), Asr.is (.bool true), Asr.is (.bool true)] HH.out (by kernel_rfl) (by kernel_rfl) rfl ?_ ?_
              · refine eachD_cons ?_ (eachD_cons ?_ (eachD_cons ?_ (eachD_cons ?_ (eachD_cons ?_ (eachD_cons ?_ (eachD_cons ?_ (eachD_cons ?_ (eachD_cons ?_ (eachD_cons ?_ (eachD_cons ?_ (eachD_cons ?_ (eachD_cons ?_ (eachD_cons ?_ (eachD_cons ?_ (eachD_nil)))))))))))))))
                · intro a_ w1 hI hF hS
                  have e9 : a_.eval (.tmp 9) = (.pointer (some ⟨g9_, 0, none⟩)) := (hF.2.2 9 (notDst_of (by kernel_rfl))).trans rfl
                  refine wantD (by rfl) ?_
                  exact op_val rfl (ex_loadA kA34 hI.1 e9 (by first | exact .here | exact .there .here | exact .there (.there .here) | exact .there (.there (.there .here)))) rfl
                · intro a_ w1 hI hF hS
                  have e5 : a_.eval (.tmp 5) = (.pointer (some ⟨g5_, 0, none⟩)) := (hF.2.2 5 (notDst_of (by kernel_rfl))).trans rfl
                  refine wantD (by rfl) ?_
                  exact op_val rfl (ex_loadA kA41 hI.1 e5 (by first | exact .here | exact .there .here | exact .there (.there .here) | exact .there (.there (.there .here)))) rfl
                · intro a_ w1 hI hF hS
                  have e6 : a_.eval (.tmp 6) = (.int .i64 i) := (hF.2.2 6 (notDst_of (by kernel_rfl))).trans rfl
                  refine wantD (by rfl) ?_
                  exact op_val rfl (ex_move rfl w1) e6
                · intro a_ w1 hI hF hS
                  have e7 : a_.eval (.tmp 7) = (.slice ap p.length cp) := (hF.2.2 7 (notDst_of (by kernel_rfl))).trans rfl
                  refine wantD (by rfl) ?_
                  exact op_val rfl (ex_move rfl w1) e7
                · intro a_ w1 hI hF hS
                  have e101 : a_.eval (.tmp 101) = (.slice ap p.length cp) := hS ⟨3, .data⟩ (by simp) rfl _ rfl
                  refine wantD (by rfl) ?_
                  exact op_call kB49 rfl ((ownN_any w1 _ p (by rw [e101]; exact Holds.sl hI.1 HP.out) (by omega)).mono fun e w' ⟨a', c', he, hr, hb⟩ => ⟨_, he, hb, row_base hr hI.1.size⟩)
                · intro a_ w1 hI hF hS
                  have e98 : a_.eval (.tmp 98) = r.val := hS ⟨0, .data⟩ (by simp) rfl _ rfl
                  have e99 : a_.eval (.tmp 99) = x.val := hS ⟨1, .data⟩ (by simp) rfl _ rfl
                  have e100 : a_.eval (.tmp 100) = (.int .i64 i) := hS ⟨2, .data⟩ (by simp) rfl _ rfl
                  have e102 : (Asr.row w.heap.size 34 16 p.length (flat p)).p (a_.eval (.tmp 102)) w1 := hS ⟨4, .data⟩ (by simp) rfl _ rfl
                  refine wantD (by rfl) ?_
                  exact op_call (args := #[r.val, x.val, .int .i64 i, a_.eval (.tmp 102)]) kB53 (by show #[a_.eval (.tmp 98), a_.eval (.tmp 99), a_.eval (.tmp 100), a_.eval (.tmp 102)] = _; rw [e98, e99, e100]) ((verify_any w1 _ r x i p (Sl.of_row e102) (by omega)).mono fun e w' ⟨he, hb⟩ => ⟨_, he, hb, by rw [HVB.out]; rfl⟩)
                · intro a_ w1 hI hF hS
                  have e15 : a_.eval (.tmp 15) = (.int .i64 fc) := (hF.2.2 15 (notDst_of (by kernel_rfl))).trans rfl
                  refine wantD (by rfl) ?_
                  exact op_val rfl (ex_move rfl w1) e15
                · intro a_ w1 hI hF hS
                  have e104 : a_.eval (.tmp 104) = (.int .i64 fc) := hS ⟨6, .data⟩ (by simp) rfl _ rfl
                  refine wantD (by rfl) ?_
                  exact op_val rfl (ex_cmp (b := false) rfl e104 (by rfl) (by simp only [cmpB]; exact HZ.out) w1) rfl
                · intro a_ w1 hI hF hS
                  have e105 : a_.eval (.tmp 105) = (.bool false) := hS ⟨7, .data⟩ (by simp) rfl _ rfl
                  refine wantD (by rfl) ?_
                  exact op_val rfl (ex_move rfl w1) e105
                · intro a_ w1 hI hF hS
                  have e14 : a_.eval (.tmp 14) = (.pointer (some ⟨g14_, 0, none⟩)) := (hF.2.2 14 (notDst_of (by kernel_rfl))).trans rfl
                  have e106 : a_.eval (.tmp 106) = (.bool false) := hS ⟨8, .guard⟩ (by simp) rfl _ rfl
                  exact skipD (wanted_of (j := 8) (b := false) (want := true) (by rfl) (by rfl) e106 rfl) trivial
                · intro a_ w1 hI hF hS
                  have e9 : a_.eval (.tmp 9) = (.pointer (some ⟨g9_, 0, none⟩)) := (hF.2.2 9 (notDst_of (by kernel_rfl))).trans rfl
                  have e106 : a_.eval (.tmp 106) = (.bool false) := hS ⟨8, .guard⟩ (by simp) rfl _ rfl
                  exact skipD (wanted_of (j := 8) (b := false) (want := true) (by rfl) (by rfl) e106 rfl) trivial
                · intro a_ w1 hI hF hS
                  have e106 : a_.eval (.tmp 106) = (.bool false) := hS ⟨8, .guard⟩ (by simp) rfl _ rfl
                  exact skipD (wanted_of (j := 8) (b := false) (want := true) (by rfl) (by rfl) e106 rfl) trivial
                · intro a_ w1 hI hF hS
                  have e106 : a_.eval (.tmp 106) = (.bool false) := hS ⟨8, .data⟩ (by simp) rfl _ rfl
                  refine wantD (by rfl) ?_
                  exact op_val rfl (ex_pick e106 rfl w1) rfl
                · intro a_ w1 hI hF hS
                  have e103 : a_.eval (.tmp 103) = (.bool vb) := hS ⟨5, .data⟩ (by simp) rfl _ rfl
                  have e110 : a_.eval (.tmp 110) = (.bool false) := hS ⟨12, .data⟩ (by simp) rfl _ rfl
                  refine wantD (by rfl) ?_
                  exact op_val rfl (ex_eqBool Try.underlying4 e103 e110 HEQ.out w1) rfl
                · intro a_ w1 hI hF hS
                  have e111 : a_.eval (.tmp 111) = (.bool true) := hS ⟨13, .data⟩ (by simp) rfl _ rfl
                  refine wantD (by rfl) ?_
                  exact op_val rfl (ex_assign rfl w1) e111
              intro wq hq_ hb_
              intro v0_ h0_ v1_ h1_ v2_ h2_ v3_ h3_ v4_ h4_ v5_ h5_ v6_ h6_ v7_ h7_ v8_ h8_ v9_ h9_ v10_ h10_ v11_ h11_ v12_ h12_ v13_ h13_ v14_ h14_
              have q_ : v0_ = r.val := h0_; clear h0_; subst q_
              have q_ : v1_ = x.val := h1_; clear h1_; subst q_
              have q_ : v2_ = (.int .i64 i) := h2_; clear h2_; subst q_
              have q_ : v3_ = (.slice ap p.length cp) := h3_; clear h3_; subst q_
              have K4 := hid h4_; clear h4_
              have q_ : v5_ = (.bool vb) := h5_; clear h5_; subst q_
              have q_ : v6_ = (.int .i64 fc) := h6_; clear h6_; subst q_
              have q_ : v7_ = (.bool false) := h7_; clear h7_; subst q_
              have q_ : v8_ = (.bool false) := h8_; clear h8_; subst q_
              clear h9_
              clear h10_
              clear h11_
              have q_ : v12_ = (.bool false) := h12_; clear h12_; subst q_
              have q_ : v13_ = (.bool true) := h13_; clear h13_; subst q_
              have q_ : v14_ = (.bool true) := h14_; clear h14_; subst q_
              simp only [endD, putsD, Act.put, List.setIfInBounds_toArray, List.set_cons_succ, List.set_cons_zero]
              have HQ := hid hq_; clear hq_
              have HB_ := hid hb_; clear hb_
              go_wp2
              go_ret
              exact RetB.mk rfl HQ.out.dropRow.dropBlk.dropBlk.dropBlk.dropBlk.below
        · obtain rfl : k = l.length := by omega
          go_wp2_with (first
            | ((first
                | ((with_reducible apply wpL_skip); rfl; skip)
                | ((with_reducible apply wpL_nilCheck); rfl; rfl)
                | ((with_reducible apply wpL_fieldAddr); (first | exact kF79_0 | exact kF79_1 | exact kF79_2); rfl; rfl)
                | ((with_reducible apply wpL_load1 (t := 3) kO3 HH.out); rfl; (first | exact .here | exact .there .here | exact .there (.there .here) | exact .there (.there (.there .here)) | exact .there (.there (.there (.there .here))) | exact .there (.there (.there (.there (.there .here)))) | exact .there (.there (.there (.there (.there (.there .here))))) | exact .there (.there (.there (.there (.there (.there (.there .here))))))); rfl; rfl)
                | ((with_reducible apply wpL_load1 (t := 30) kO30 HH.out); rfl; (first | exact .here | exact .there .here | exact .there (.there .here) | exact .there (.there (.there .here)) | exact .there (.there (.there (.there .here))) | exact .there (.there (.there (.there (.there .here)))) | exact .there (.there (.there (.there (.there (.there .here))))) | exact .there (.there (.there (.there (.there (.there (.there .here))))))); rfl; rfl)
                | ((with_reducible apply wpL_loadArr (t := 34) kA34 HH.out); rfl; (first | exact .here | exact .there .here | exact .there (.there .here) | exact .there (.there (.there .here)) | exact .there (.there (.there (.there .here))) | exact .there (.there (.there (.there (.there .here)))) | exact .there (.there (.there (.there (.there (.there .here))))) | exact .there (.there (.there (.there (.there (.there (.there .here))))))); rfl)
                | ((with_reducible apply wpL_loadC (t := 34) kA34 HH.out); rfl; (first | exact .here | exact .there .here | exact .there (.there .here) | exact .there (.there (.there .here)) | exact .there (.there (.there (.there .here))) | exact .there (.there (.there (.there (.there .here)))) | exact .there (.there (.there (.there (.there (.there .here))))) | exact .there (.there (.there (.there (.there (.there (.there .here))))))); (first | rfl | exact Arr.len _ | (simp; done)); rfl)
                | ((with_reducible apply wpL_loadArr (t := 41) kA41 HH.out); rfl; (first | exact .here | exact .there .here | exact .there (.there .here) | exact .there (.there (.there .here)) | exact .there (.there (.there (.there .here))) | exact .there (.there (.there (.there (.there .here)))) | exact .there (.there (.there (.there (.there (.there .here))))) | exact .there (.there (.there (.there (.there (.there (.there .here))))))); rfl)
                | ((with_reducible apply wpL_loadC (t := 41) kA41 HH.out); rfl; (first | exact .here | exact .there .here | exact .there (.there .here) | exact .there (.there (.there .here)) | exact .there (.there (.there (.there .here))) | exact .there (.there (.there (.there (.there .here)))) | exact .there (.there (.there (.there (.there (.there .here))))) | exact .there (.there (.there (.there (.there (.there (.there .here))))))); (first | rfl | exact Arr.len _ | (simp; done)); rfl)
                | ((with_reducible apply wpL_len (t := 30) Try.underlying30); rfl; rfl)
                | ((with_reducible apply wpL_len (t := 46) Try.underlying46); rfl; rfl)
                | ((with_reducible apply wpL_boxC (dst := some 3)); rfl; (exact HH.out); rfl; (intro g3_ w_ hq_; (try simp only [List.set_cons_zero, List.set_cons_succ] at hq_); clear HH; have HH := hid hq_; clear hq_))
                | ((with_reducible apply wpL_allocC (dst := some 5) kZ41 HH.out); rfl; (intro g5_ w_ hq_; (try simp only [List.set_cons_zero, List.set_cons_succ] at hq_); clear HH; have HH := hid hq_; clear hq_))
                | ((with_reducible apply wpL_allocC (dst := some 9) kZ34 HH.out); rfl; (intro g9_ w_ hq_; (try simp only [List.set_cons_zero, List.set_cons_succ] at hq_); clear HH; have HH := hid hq_; clear hq_))
                | ((with_reducible apply wpL_allocC (dst := some 14) kZ34 HH.out); rfl; (intro g14_ w_ hq_; (try simp only [List.set_cons_zero, List.set_cons_succ] at hq_); clear HH; have HH := hid hq_; clear hq_))
                | ((with_reducible apply wpL_allocC (dst := some 17) kZ41 HH.out); rfl; (intro g17_ w_ hq_; (try simp only [List.set_cons_zero, List.set_cons_succ] at hq_); clear HH; have HH := hid hq_; clear hq_))
                | ((with_reducible apply wpL_storeArr (t := 34) kS34 HH.out); rfl; rfl; (first | exact .here | exact .there .here | exact .there (.there .here) | exact .there (.there (.there .here)) | exact .there (.there (.there (.there .here))) | exact .there (.there (.there (.there (.there .here)))) | exact .there (.there (.there (.there (.there (.there .here))))) | exact .there (.there (.there (.there (.there (.there (.there .here))))))); (first | rfl | exact Arr.len _ | (simp; done)); rfl; (intro w_ hq_; (try simp only [List.set_cons_zero, List.set_cons_succ] at hq_); clear HH; have HH := hid hq_; clear hq_))
                | ((with_reducible apply wpL_storeC (t := 34)); rfl; rfl; (exact kS34); (exact HH.out); (first | exact .here | exact .there .here | exact .there (.there .here) | exact .there (.there (.there .here)) | exact .there (.there (.there (.there .here))) | exact .there (.there (.there (.there (.there .here)))) | exact .there (.there (.there (.there (.there (.there .here))))) | exact .there (.there (.there (.there (.there (.there (.there .here))))))); (first | rfl | exact Arr.len _ | (simp; done)); (first | rfl | (intro u_ hu_; simp only [List.mem_cons, List.not_mem_nil, or_false] at hu_; rcases hu_ with rfl | hu_; rfl) | exact byt_cell1 _ | exact cells_one _ | exact wrd_one _ | exact flat_cell1 _); (first | rfl | exact Arr.len _ | (simp; done)); rfl; (intro w_ hq_; (try simp only [List.set_cons_zero, List.set_cons_succ] at hq_); clear HH; have HH := hid hq_; clear hq_))
                | ((with_reducible apply wpL_storeArr (t := 41) kS41 HH.out); rfl; rfl; (first | exact .here | exact .there .here | exact .there (.there .here) | exact .there (.there (.there .here)) | exact .there (.there (.there (.there .here))) | exact .there (.there (.there (.there (.there .here)))) | exact .there (.there (.there (.there (.there (.there .here))))) | exact .there (.there (.there (.there (.there (.there (.there .here))))))); (first | rfl | exact Arr.len _ | (simp; done)); rfl; (intro w_ hq_; (try simp only [List.set_cons_zero, List.set_cons_succ] at hq_); clear HH; have HH := hid hq_; clear hq_))
                | ((with_reducible apply wpL_storeC (t := 41)); rfl; rfl; (exact kS41); (exact HH.out); (first | exact .here | exact .there .here | exact .there (.there .here) | exact .there (.there (.there .here)) | exact .there (.there (.there (.there .here))) | exact .there (.there (.there (.there (.there .here)))) | exact .there (.there (.there (.there (.there (.there .here))))) | exact .there (.there (.there (.there (.there (.there (.there .here))))))); (first | rfl | exact Arr.len _ | (simp; done)); (first | rfl | (intro u_ hu_; simp only [List.mem_cons, List.not_mem_nil, or_false] at hu_; rcases hu_ with rfl | hu_; rfl) | exact byt_cell1 _ | exact cells_one _ | exact wrd_one _ | exact flat_cell1 _); (first | rfl | exact Arr.len _ | (simp; done)); rfl; (intro w_ hq_; (try simp only [List.set_cons_zero, List.set_cons_succ] at hq_); clear HH; have HH := hid hq_; clear hq_))
                | ((with_reducible apply wpL_move); rfl; rfl)
                | ((with_reducible apply wpL_assign); rfl; rfl)
                | ((with_reducible apply wpL_pick); rfl; rfl; rfl)
                | ((with_reducible apply wpL_not); rfl; rfl)
                | ((with_reducible apply wpL_cmp (b := true)); rfl; rfl; rfl; (first | rfl | assumption | (simp only [cmpB, decide_eq_true_eq, decide_eq_false_iff_not, beq_iff_eq, bne_iff_ne, ne_eq, beq_eq_false_iff_ne, bne_eq_false_iff_eq, gt_iff_lt, ge_iff_le]; omega) | (simp; omega)); rfl)
                | ((with_reducible apply wpL_cmp (b := false)); rfl; rfl; rfl; (first | rfl | assumption | (simp only [cmpB, decide_eq_true_eq, decide_eq_false_iff_not, beq_iff_eq, bne_iff_ne, ne_eq, beq_eq_false_iff_ne, bne_eq_false_iff_eq, gt_iff_lt, ge_iff_le]; omega) | (simp; omega)); rfl)
                | ((with_reducible apply wpL_cmp); rfl; rfl; rfl; rfl; rfl)
                | ((with_reducible apply wpL_arith); rfl; rfl; rfl; (exact IntWalk.i64_in _ (by (try simp only [arithI]); omega)); rfl)); (try simp only [arithI, Act.put, Act.eval, List.setIfInBounds_toArray, List.set_cons_succ, List.set_cons_zero, Array.getD_eq_getD_getElem?, List.getElem?_toArray, List.getElem?_cons_succ, List.getElem?_cons_zero, Option.getD_some])))
          by_cases hz : fc = 0
          · have HZ := hid (show (fc == 0) = true by simpa using hz)
            have HEQ := hid (show (vb == (fv == r)) = true by rw [← HVB.out]; unfold verB; rw [HFV.out, HFC.out, HZ.out]; simp)
            clear hz
            refine wp_region_F [(fun u_ => u_ = x.val), (fun u_ => u_ = (.int .i64 i)), (fun u_ => u_ = (.slice ap p.length cp)), (fun _ => True), (fun u_ => u_ = (.tuple #[fv.val, .int .i64 fc])), (fun u_ => u_ = (.tuple #[fv.val, .int .i64 fc])), (fun u_ => u_ = fv.val), (fun u_ => u_ = (.int .i64 fc)), (isPtr), (fun _ => True), (fun u_ => u_ = (.int .i64 fc))] (AJ w [] [(g9_, objC r.cells 34), (g5_, objC x.cells 41), (g3_, objC (claimCs i x (.slice ap p.length cp)) 79)] (rowsO 3 78 34 16 p.length (flat p) [rowA 34 ao1 cap1 l]) 8 9 14 34 (Arr.zero 16).cells fv.cells) (by kernel_rfl) (by kernel_rfl) rfl (HH.out.drew) ?_ ?_
            · refine eachD_cons ?_ (eachD_cons ?_ (eachD_cons ?_ (eachD_cons ?_ (eachD_cons ?_ (eachD_cons ?_ (eachD_cons ?_ (eachD_cons ?_ (eachD_cons ?_ (eachD_cons ?_ (eachD_cons ?_ (eachD_nil)))))))))))
              · intro li_ a_ w1 hc hi hJ hF hS
                have e5 : a_.eval (.tmp 5) = (.pointer (some ⟨g5_, 0, none⟩)) := (hF.2.2 5 (notDst_of (by kernel_rfl))).trans rfl
                refine wantD (by rfl) ?_
                exact ok_load kA41 hJ e5 (Own.opt (.there .here)) (Arr.len _) ⟨hJ, rfl⟩
              · intro li_ a_ w1 hc hi hJ hF hS
                have e6 : a_.eval (.tmp 6) = (.int .i64 i) := (hF.2.2 6 (notDst_of (by kernel_rfl))).trans rfl
                refine wantD (by rfl) ?_
                exact opF_val rfl (ex_move rfl w1) hJ e6
              · intro li_ a_ w1 hc hi hJ hF hS
                have e7 : a_.eval (.tmp 7) = (.slice ap p.length cp) := (hF.2.2 7 (notDst_of (by kernel_rfl))).trans rfl
                refine wantD (by rfl) ?_
                exact opF_val rfl (ex_move rfl w1) hJ e7
              · intro li_ a_ w1 hc hi hJ hF hS
                have l2 : li_ 2 = true := (hS ⟨2, .data⟩ (by simp) rfl).1
                have e77 : a_.eval (.tmp 77) = (.slice ap p.length cp) := (hS ⟨2, .data⟩ (by simp) rfl).2 _ rfl
                refine wantD (by rfl) ?_
                exact opF_call kB49 rfl ((ownN_any w1 _ p (by rw [e77]; exact Holds.sl hJ HP.out) (by omega)).mono fun e w' ⟨a', c', he, hr, hb⟩ => ⟨_, he, AJ.addRow hJ hi (by decide) (by decide) (by decide) hb hr, trivial⟩)
              · intro li_ a_ w1 hc hi hJ hF hS
                have l0 : li_ 0 = true := (hS ⟨0, .data⟩ (by simp) rfl).1
                have l1 : li_ 1 = true := (hS ⟨1, .data⟩ (by simp) rfl).1
                have l3 : li_ 3 = true := (hS ⟨3, .data⟩ (by simp) rfl).1
                have e75 : a_.eval (.tmp 75) = x.val := (hS ⟨0, .data⟩ (by simp) rfl).2 _ rfl
                have e76 : a_.eval (.tmp 76) = (.int .i64 i) := (hS ⟨1, .data⟩ (by simp) rfl).2 _ rfl
                refine wantD (by rfl) ?_
                exact opF_call (args := #[x.val, .int .i64 i, a_.eval (.tmp 78)]) kB54 (by show #[a_.eval (.tmp 75), a_.eval (.tmp 76), a_.eval (.tmp 78)] = _; rw [e75, e76]) ((from_any w1 _ x i p (AJ.slRow hJ l3) (by omega)).mono fun e w' ⟨he, hb⟩ => ⟨_, he, AJ.grow hJ hb, by rw [HFV.out, HFC.out]; rfl⟩)
              · intro li_ a_ w1 hc hi hJ hF hS
                have l4 : li_ 4 = true := (hS ⟨4, .data⟩ (by simp) rfl).1
                have e79 : a_.eval (.tmp 79) = (.tuple #[fv.val, .int .i64 fc]) := (hS ⟨4, .data⟩ (by simp) rfl).2 _ rfl
                refine wantD (by rfl) ?_
                exact opF_val rfl (ex_move rfl w1) hJ e79
              · intro li_ a_ w1 hc hi hJ hF hS
                have l5 : li_ 5 = true := (hS ⟨5, .data⟩ (by simp) rfl).1
                have e74 : a_.eval (.tmp 74) = (.tuple #[fv.val, .int .i64 fc]) := (hS ⟨5, .data⟩ (by simp) rfl).2 _ rfl
                refine wantD (by rfl) ?_
                exact opF_val rfl (ex_extract e74 rfl w1) hJ rfl
              · intro li_ a_ w1 hc hi hJ hF hS
                have l5 : li_ 5 = true := (hS ⟨5, .data⟩ (by simp) rfl).1
                have e74 : a_.eval (.tmp 74) = (.tuple #[fv.val, .int .i64 fc]) := (hS ⟨5, .data⟩ (by simp) rfl).2 _ rfl
                refine wantD (by rfl) ?_
                exact opF_val rfl (ex_extract e74 rfl w1) hJ rfl
              · intro li_ a_ w1 hc hi hJ hF hS
                refine wantD (by rfl) ?_
                exact aj_alloc kZ34 hJ hi (hc.off (j := 9) (by kernel_rfl) hi) (by decide) (fun _ => rfl)
              · intro li_ a_ w1 hc hi hJ hF hS
                have l8 : li_ 8 = true := (hS ⟨8, .data⟩ (by simp) rfl).1
                have l6 : li_ 6 = true := (hS ⟨6, .data⟩ (by simp) rfl).1
                have l4 : li_ 4 = true := (hS ⟨4, .chain⟩ (by simp) rfl).1
                have l0 : li_ 0 = true := (hS ⟨0, .phase⟩ (by simp) rfl).1
                have l1 : li_ 1 = true := (hS ⟨1, .phase⟩ (by simp) rfl).1
                have l2 : li_ 2 = true := (hS ⟨2, .phase⟩ (by simp) rfl).1
                have l3 : li_ 3 = true := (hS ⟨3, .phase⟩ (by simp) rfl).1
                have l5 : li_ 5 = true := (hS ⟨5, .phase⟩ (by simp) rfl).1
                have e14 : (isPtr) (a_.eval (.tmp 14)) := (hS ⟨8, .data⟩ (by simp) rfl).2 _ rfl
                have e80 : a_.eval (.tmp 80) = fv.val := (hS ⟨6, .data⟩ (by simp) rfl).2 _ rfl
                refine wantD (by rfl) ?_
                exact aj_store kS34 (Arr.len _) (Arr.len _) (cells_one _) hJ l8 hi (by decide) e14 e80 rfl
              · intro li_ a_ w1 hc hi hJ hF hS
                have l7 : li_ 7 = true := (hS ⟨7, .data⟩ (by simp) rfl).1
                have l9 : li_ 9 = true := (hS ⟨9, .chain⟩ (by simp) rfl).1
                have l0 : li_ 0 = true := (hS ⟨0, .phase⟩ (by simp) rfl).1
                have l1 : li_ 1 = true := (hS ⟨1, .phase⟩ (by simp) rfl).1
                have l2 : li_ 2 = true := (hS ⟨2, .phase⟩ (by simp) rfl).1
                have l3 : li_ 3 = true := (hS ⟨3, .phase⟩ (by simp) rfl).1
                have l4 : li_ 4 = true := (hS ⟨4, .phase⟩ (by simp) rfl).1
                have l5 : li_ 5 = true := (hS ⟨5, .phase⟩ (by simp) rfl).1
                have l6 : li_ 6 = true := (hS ⟨6, .phase⟩ (by simp) rfl).1
                have l8 : li_ 8 = true := (hS ⟨8, .phase⟩ (by simp) rfl).1
                have e81 : a_.eval (.tmp 81) = (.int .i64 fc) := (hS ⟨7, .data⟩ (by simp) rfl).2 _ rfl
                refine wantD (by rfl) ?_
                exact opF_val rfl (ex_assign rfl w1) hJ e81
            intro v0_ h0_ v1_ h1_ v2_ h2_ v3_ h3_ v4_ h4_ v5_ h5_ v6_ h6_ v7_ h7_ v8_ h8_ v9_ h9_ v10_ h10_
            intro wq hq_
            have q_ : v0_ = x.val := h0_; clear h0_; subst q_
            have q_ : v1_ = (.int .i64 i) := h1_; clear h1_; subst q_
            have q_ : v2_ = (.slice ap p.length cp) := h2_; clear h2_; subst q_
            clear h3_
            have q_ : v4_ = (.tuple #[fv.val, .int .i64 fc]) := h4_; clear h4_; subst q_
            have q_ : v5_ = (.tuple #[fv.val, .int .i64 fc]) := h5_; clear h5_; subst q_
            have q_ : v6_ = fv.val := h6_; clear h6_; subst q_
            have q_ : v7_ = (.int .i64 fc) := h7_; clear h7_; subst q_
            obtain ⟨g14_, rfl⟩ := h8_
            clear h9_
            have q_ : v10_ = (.int .i64 fc) := h10_; clear h10_; subst q_
            have HQ := hid hq_; clear hq_
            simp only [putsD, Act.put, List.setIfInBounds_toArray, List.set_cons_succ, List.set_cons_zero]
            have hq2_ : Holds w [] [(g14_, objC fv.cells 34), (g9_, objC r.cells 34), (g5_, objC x.cells 41), (g3_, objC (claimCs i x (.slice ap p.length cp)) 79)] [rowA 34 ao1 cap1 l] wq := Holds.dropRow HQ.out
            clear HH HQ
            have HH := hid hq2_
            clear hq2_
            go_wp2_with (first
              | ((first
                  | ((with_reducible apply wpL_skip); rfl; skip)
                  | (go_at_call 55; (have hcall_ := hid (pairs_any _ (.slice ap p.length cp) x i p (HH.out.sl HP.out) (by omega))); (with_reducible refine hcall_.out.mono ?_); clear hcall_; rw [HFV.out, HFC.out]; rintro e_ w2_ ⟨ao3, cap3, rfl, hr_, hb_⟩; (have hq_ := HH.out.grow hb_); clear HH; have HH := hid hq_; clear hq_ hb_ hr_)
                  | ((with_reducible apply wpL_neqA (b := false) (p := fv) (q := fv) kR34); rfl; rfl; (exact arrNe _); rfl)
                  | ((with_reducible apply wpL_nilCheck); rfl; rfl)
                  | ((with_reducible apply wpL_fieldAddr); (first | exact kF79_0 | exact kF79_1 | exact kF79_2); rfl; rfl)
                  | ((with_reducible apply wpL_load1 (t := 3) kO3 HH.out); rfl; (first | exact .here | exact .there .here | exact .there (.there .here) | exact .there (.there (.there .here)) | exact .there (.there (.there (.there .here))) | exact .there (.there (.there (.there (.there .here)))) | exact .there (.there (.there (.there (.there (.there .here))))) | exact .there (.there (.there (.there (.there (.there (.there .here))))))); rfl; rfl)
                  | ((with_reducible apply wpL_load1 (t := 30) kO30 HH.out); rfl; (first | exact .here | exact .there .here | exact .there (.there .here) | exact .there (.there (.there .here)) | exact .there (.there (.there (.there .here))) | exact .there (.there (.there (.there (.there .here)))) | exact .there (.there (.there (.there (.there (.there .here))))) | exact .there (.there (.there (.there (.there (.there (.there .here))))))); rfl; rfl)
                  | ((with_reducible apply wpL_loadArr (t := 34) kA34 HH.out); rfl; (first | exact .here | exact .there .here | exact .there (.there .here) | exact .there (.there (.there .here)) | exact .there (.there (.there (.there .here))) | exact .there (.there (.there (.there (.there .here)))) | exact .there (.there (.there (.there (.there (.there .here))))) | exact .there (.there (.there (.there (.there (.there (.there .here))))))); rfl)
                  | ((with_reducible apply wpL_loadC (t := 34) kA34 HH.out); rfl; (first | exact .here | exact .there .here | exact .there (.there .here) | exact .there (.there (.there .here)) | exact .there (.there (.there (.there .here))) | exact .there (.there (.there (.there (.there .here)))) | exact .there (.there (.there (.there (.there (.there .here))))) | exact .there (.there (.there (.there (.there (.there (.there .here))))))); (first | rfl | exact Arr.len _ | (simp; done)); rfl)
                  | ((with_reducible apply wpL_loadArr (t := 41) kA41 HH.out); rfl; (first | exact .here | exact .there .here | exact .there (.there .here) | exact .there (.there (.there .here)) | exact .there (.there (.there (.there .here))) | exact .there (.there (.there (.there (.there .here)))) | exact .there (.there (.there (.there (.there (.there .here))))) | exact .there (.there (.there (.there (.there (.there (.there .here))))))); rfl)
                  | ((with_reducible apply wpL_loadC (t := 41) kA41 HH.out); rfl; (first | exact .here | exact .there .here | exact .there (.there .here) | exact .there (.there (.there .here)) | exact .there (.there (.there (.there .here))) | exact .there (.there (.there (.there (.there .here)))) | exact .there (.there (.there (.there (.there (.there .here))))) | exact .there (.there (.there (.there (.there (.there (.there .here))))))); (first | rfl | exact Arr.len _ | (simp; done)); rfl)
                  | ((with_reducible apply wpL_len (t := 30) Try.underlying30); rfl; rfl)
                  | ((with_reducible apply wpL_len (t := 46) Try.underlying46); rfl; rfl)
                  | ((with_reducible apply wpL_boxC (dst := some 3)); rfl; (exact HH.out); rfl; (intro g3_ w_ hq_; (try simp only [List.set_cons_zero, List.set_cons_succ] at hq_); clear HH; have HH := hid hq_; clear hq_))
                  | ((with_reducible apply wpL_allocC (dst := some 5) kZ41 HH.out); rfl; (intro g5_ w_ hq_; (try simp only [List.set_cons_zero, List.set_cons_succ] at hq_); clear HH; have HH := hid hq_; clear hq_))
                  | ((with_reducible apply wpL_allocC (dst := some 9) kZ34 HH.out); rfl; (intro g9_ w_ hq_; (try simp only [List.set_cons_zero, List.set_cons_succ] at hq_); clear HH; have HH := hid hq_; clear hq_))
                  | ((with_reducible apply wpL_allocC (dst := some 14) kZ34 HH.out); rfl; (intro g14_ w_ hq_; (try simp only [List.set_cons_zero, List.set_cons_succ] at hq_); clear HH; have HH := hid hq_; clear hq_))
                  | ((with_reducible apply wpL_allocC (dst := some 17) kZ41 HH.out); rfl; (intro g17_ w_ hq_; (try simp only [List.set_cons_zero, List.set_cons_succ] at hq_); clear HH; have HH := hid hq_; clear hq_))
                  | ((with_reducible apply wpL_storeArr (t := 34) kS34 HH.out); rfl; rfl; (first | exact .here | exact .there .here | exact .there (.there .here) | exact .there (.there (.there .here)) | exact .there (.there (.there (.there .here))) | exact .there (.there (.there (.there (.there .here)))) | exact .there (.there (.there (.there (.there (.there .here))))) | exact .there (.there (.there (.there (.there (.there (.there .here))))))); (first | rfl | exact Arr.len _ | (simp; done)); rfl; (intro w_ hq_; (try simp only [List.set_cons_zero, List.set_cons_succ] at hq_); clear HH; have HH := hid hq_; clear hq_))
                  | ((with_reducible apply wpL_storeC (t := 34)); rfl; rfl; (exact kS34); (exact HH.out); (first | exact .here | exact .there .here | exact .there (.there .here) | exact .there (.there (.there .here)) | exact .there (.there (.there (.there .here))) | exact .there (.there (.there (.there (.there .here)))) | exact .there (.there (.there (.there (.there (.there .here))))) | exact .there (.there (.there (.there (.there (.there (.there .here))))))); (first | rfl | exact Arr.len _ | (simp; done)); (first | rfl | (intro u_ hu_; simp only [List.mem_cons, List.not_mem_nil, or_false] at hu_; rcases hu_ with rfl | hu_; rfl) | exact byt_cell1 _ | exact cells_one _ | exact wrd_one _ | exact flat_cell1 _); (first | rfl | exact Arr.len _ | (simp; done)); rfl; (intro w_ hq_; (try simp only [List.set_cons_zero, List.set_cons_succ] at hq_); clear HH; have HH := hid hq_; clear hq_))
                  | ((with_reducible apply wpL_storeArr (t := 41) kS41 HH.out); rfl; rfl; (first | exact .here | exact .there .here | exact .there (.there .here) | exact .there (.there (.there .here)) | exact .there (.there (.there (.there .here))) | exact .there (.there (.there (.there (.there .here)))) | exact .there (.there (.there (.there (.there (.there .here))))) | exact .there (.there (.there (.there (.there (.there (.there .here))))))); (first | rfl | exact Arr.len _ | (simp; done)); rfl; (intro w_ hq_; (try simp only [List.set_cons_zero, List.set_cons_succ] at hq_); clear HH; have HH := hid hq_; clear hq_))
                  | ((with_reducible apply wpL_storeC (t := 41)); rfl; rfl; (exact kS41); (exact HH.out); (first | exact .here | exact .there .here | exact .there (.there .here) | exact .there (.there (.there .here)) | exact .there (.there (.there (.there .here))) | exact .there (.there (.there (.there (.there .here)))) | exact .there (.there (.there (.there (.there (.there .here))))) | exact .there (.there (.there (.there (.there (.there (.there .here))))))); (first | rfl | exact Arr.len _ | (simp; done)); (first | rfl | (intro u_ hu_; simp only [List.mem_cons, List.not_mem_nil, or_false] at hu_; rcases hu_ with rfl | hu_; rfl) | exact byt_cell1 _ | exact cells_one _ | exact wrd_one _ | exact flat_cell1 _); (first | rfl | exact Arr.len _ | (simp; done)); rfl; (intro w_ hq_; (try simp only [List.set_cons_zero, List.set_cons_succ] at hq_); clear HH; have HH := hid hq_; clear hq_))
                  | ((with_reducible apply wpL_move); rfl; rfl)
                  | ((with_reducible apply wpL_assign); rfl; rfl)
                  | ((with_reducible apply wpL_pick); rfl; rfl; rfl)
                  | ((with_reducible apply wpL_not); rfl; rfl)
                  | ((with_reducible apply wpL_cmp (b := true)); rfl; rfl; rfl; (first | rfl | assumption | (simp only [cmpB, decide_eq_true_eq, decide_eq_false_iff_not, beq_iff_eq, bne_iff_ne, ne_eq, beq_eq_false_iff_ne, bne_eq_false_iff_eq, gt_iff_lt, ge_iff_le]; omega) | (simp; omega)); rfl)
                  | ((with_reducible apply wpL_cmp (b := false)); rfl; rfl; rfl; (first | rfl | assumption | (simp only [cmpB, decide_eq_true_eq, decide_eq_false_iff_not, beq_iff_eq, bne_iff_ne, ne_eq, beq_eq_false_iff_ne, bne_eq_false_iff_eq, gt_iff_lt, ge_iff_le]; omega) | (simp; omega)); rfl)
                  | ((with_reducible apply wpL_cmp); rfl; rfl; rfl; rfl; rfl)
                  | ((with_reducible apply wpL_arith); rfl; rfl; rfl; (exact IntWalk.i64_in _ (by (try simp only [arithI]); omega)); rfl)); (try simp only [arithI, Act.put, Act.eval, List.setIfInBounds_toArray, List.set_cons_succ, List.set_cons_zero, Array.getD_eq_getD_getElem?, List.getElem?_toArray, List.getElem?_cons_succ, List.getElem?_cons_zero, Option.getD_some])))
            refine wp_region_R [Asr.is r.val, Asr.is x.val, Asr.is (.int .i64 i), Asr.is (.slice ap p.length cp), Asr.row w.heap.size 34 16 p.length (flat p), Asr.is (.bool vb), Asr.is (.int .i64 fc), Asr.is (.bool true), Asr.is (.bool true), Asr.is fv.val, Asr.is r.val, Asr.is (.bool (fv == r)), Asr.is (.bool (fv == r)), Asr.is (.bool true), Asr.is (.bool true)] HH.out (by kernel_rfl) (by kernel_rfl) rfl ?_ ?_
            · refine eachD_cons ?_ (eachD_cons ?_ (eachD_cons ?_ (eachD_cons ?_ (eachD_cons ?_ (eachD_cons ?_ (eachD_cons ?_ (eachD_cons ?_ (eachD_cons ?_ (eachD_cons ?_ (eachD_cons ?_ (eachD_cons ?_ (eachD_cons ?_ (eachD_cons ?_ (eachD_cons ?_ (eachD_nil)))))))))))))))
              · intro a_ w1 hI hF hS
                have e9 : a_.eval (.tmp 9) = (.pointer (some ⟨g9_, 0, none⟩)) := (hF.2.2 9 (notDst_of (by kernel_rfl))).trans rfl
                refine wantD (by rfl) ?_
                exact op_val rfl (ex_loadA kA34 hI.1 e9 (by first | exact .here | exact .there .here | exact .there (.there .here) | exact .there (.there (.there .here)))) rfl
              · intro a_ w1 hI hF hS
                have e5 : a_.eval (.tmp 5) = (.pointer (some ⟨g5_, 0, none⟩)) := (hF.2.2 5 (notDst_of (by kernel_rfl))).trans rfl
                refine wantD (by rfl) ?_
                exact op_val rfl (ex_loadA kA41 hI.1 e5 (by first | exact .here | exact .there .here | exact .there (.there .here) | exact .there (.there (.there .here)))) rfl
              · intro a_ w1 hI hF hS
                have e6 : a_.eval (.tmp 6) = (.int .i64 i) := (hF.2.2 6 (notDst_of (by kernel_rfl))).trans rfl
                refine wantD (by rfl) ?_
                exact op_val rfl (ex_move rfl w1) e6
              · intro a_ w1 hI hF hS
                have e7 : a_.eval (.tmp 7) = (.slice ap p.length cp) := (hF.2.2 7 (notDst_of (by kernel_rfl))).trans rfl
                refine wantD (by rfl) ?_
                exact op_val rfl (ex_move rfl w1) e7
              · intro a_ w1 hI hF hS
                have e101 : a_.eval (.tmp 101) = (.slice ap p.length cp) := hS ⟨3, .data⟩ (by simp) rfl _ rfl
                refine wantD (by rfl) ?_
                exact op_call kB49 rfl ((ownN_any w1 _ p (by rw [e101]; exact Holds.sl hI.1 HP.out) (by omega)).mono fun e w' ⟨a', c', he, hr, hb⟩ => ⟨_, he, hb, row_base hr hI.1.size⟩)
              · intro a_ w1 hI hF hS
                have e98 : a_.eval (.tmp 98) = r.val := hS ⟨0, .data⟩ (by simp) rfl _ rfl
                have e99 : a_.eval (.tmp 99) = x.val := hS ⟨1, .data⟩ (by simp) rfl _ rfl
                have e100 : a_.eval (.tmp 100) = (.int .i64 i) := hS ⟨2, .data⟩ (by simp) rfl _ rfl
                have e102 : (Asr.row w.heap.size 34 16 p.length (flat p)).p (a_.eval (.tmp 102)) w1 := hS ⟨4, .data⟩ (by simp) rfl _ rfl
                refine wantD (by rfl) ?_
                exact op_call (args := #[r.val, x.val, .int .i64 i, a_.eval (.tmp 102)]) kB53 (by show #[a_.eval (.tmp 98), a_.eval (.tmp 99), a_.eval (.tmp 100), a_.eval (.tmp 102)] = _; rw [e98, e99, e100]) ((verify_any w1 _ r x i p (Sl.of_row e102) (by omega)).mono fun e w' ⟨he, hb⟩ => ⟨_, he, hb, by rw [HVB.out]; rfl⟩)
              · intro a_ w1 hI hF hS
                have e15 : a_.eval (.tmp 15) = (.int .i64 fc) := (hF.2.2 15 (notDst_of (by kernel_rfl))).trans rfl
                refine wantD (by rfl) ?_
                exact op_val rfl (ex_move rfl w1) e15
              · intro a_ w1 hI hF hS
                have e104 : a_.eval (.tmp 104) = (.int .i64 fc) := hS ⟨6, .data⟩ (by simp) rfl _ rfl
                refine wantD (by rfl) ?_
                exact op_val rfl (ex_cmp (b := true) rfl e104 (by rfl) (by simp only [cmpB]; exact HZ.out) w1) rfl
              · intro a_ w1 hI hF hS
                have e105 : a_.eval (.tmp 105) = (.bool true) := hS ⟨7, .data⟩ (by simp) rfl _ rfl
                refine wantD (by rfl) ?_
                exact op_val rfl (ex_move rfl w1) e105
              · intro a_ w1 hI hF hS
                have e14 : a_.eval (.tmp 14) = (.pointer (some ⟨g14_, 0, none⟩)) := (hF.2.2 14 (notDst_of (by kernel_rfl))).trans rfl
                have e106 : a_.eval (.tmp 106) = (.bool true) := hS ⟨8, .guard⟩ (by simp) rfl _ rfl
                refine wantD (wanted_of (j := 8) (b := true) (want := true) (by rfl) (by rfl) e106 rfl) ?_
                exact op_val rfl (ex_loadA kA34 hI.1 e14 (by first | exact .here | exact .there .here | exact .there (.there .here) | exact .there (.there (.there .here)))) rfl
              · intro a_ w1 hI hF hS
                have e9 : a_.eval (.tmp 9) = (.pointer (some ⟨g9_, 0, none⟩)) := (hF.2.2 9 (notDst_of (by kernel_rfl))).trans rfl
                have e106 : a_.eval (.tmp 106) = (.bool true) := hS ⟨8, .guard⟩ (by simp) rfl _ rfl
                refine wantD (wanted_of (j := 8) (b := true) (want := true) (by rfl) (by rfl) e106 rfl) ?_
                exact op_val rfl (ex_loadA kA34 hI.1 e9 (by first | exact .here | exact .there .here | exact .there (.there .here) | exact .there (.there (.there .here)))) rfl
              · intro a_ w1 hI hF hS
                have e107 : a_.eval (.tmp 107) = fv.val := hS ⟨9, .data⟩ (by simp) rfl _ rfl
                have e108 : a_.eval (.tmp 108) = r.val := hS ⟨10, .data⟩ (by simp) rfl _ rfl
                have e106 : a_.eval (.tmp 106) = (.bool true) := hS ⟨8, .guard⟩ (by simp) rfl _ rfl
                refine wantD (wanted_of (j := 8) (b := true) (want := true) (by rfl) (by rfl) e106 rfl) ?_
                exact op_val rfl (ex_eql_arr Try.underlying34 Try.underlying5 (by kernel_rfl) (by kernel_rfl) e107 e108 w1) rfl
              · intro a_ w1 hI hF hS
                have e106 : a_.eval (.tmp 106) = (.bool true) := hS ⟨8, .data⟩ (by simp) rfl _ rfl
                have e109 : a_.eval (.tmp 109) = (.bool (fv == r)) := hS ⟨11, .data⟩ (by simp) rfl _ rfl
                refine wantD (by rfl) ?_
                exact op_val rfl (ex_pick e106 rfl w1) e109
              · intro a_ w1 hI hF hS
                have e103 : a_.eval (.tmp 103) = (.bool vb) := hS ⟨5, .data⟩ (by simp) rfl _ rfl
                have e110 : a_.eval (.tmp 110) = (.bool (fv == r)) := hS ⟨12, .data⟩ (by simp) rfl _ rfl
                refine wantD (by rfl) ?_
                exact op_val rfl (ex_eqBool Try.underlying4 e103 e110 HEQ.out w1) rfl
              · intro a_ w1 hI hF hS
                have e111 : a_.eval (.tmp 111) = (.bool true) := hS ⟨13, .data⟩ (by simp) rfl _ rfl
                refine wantD (by rfl) ?_
                exact op_val rfl (ex_assign rfl w1) e111
            intro wq hq_ hb_
            intro v0_ h0_ v1_ h1_ v2_ h2_ v3_ h3_ v4_ h4_ v5_ h5_ v6_ h6_ v7_ h7_ v8_ h8_ v9_ h9_ v10_ h10_ v11_ h11_ v12_ h12_ v13_ h13_ v14_ h14_
            have q_ : v0_ = r.val := h0_; clear h0_; subst q_
            have q_ : v1_ = x.val := h1_; clear h1_; subst q_
            have q_ : v2_ = (.int .i64 i) := h2_; clear h2_; subst q_
            have q_ : v3_ = (.slice ap p.length cp) := h3_; clear h3_; subst q_
            have K4 := hid h4_; clear h4_
            have q_ : v5_ = (.bool vb) := h5_; clear h5_; subst q_
            have q_ : v6_ = (.int .i64 fc) := h6_; clear h6_; subst q_
            have q_ : v7_ = (.bool true) := h7_; clear h7_; subst q_
            have q_ : v8_ = (.bool true) := h8_; clear h8_; subst q_
            have q_ : v9_ = fv.val := h9_; clear h9_; subst q_
            have q_ : v10_ = r.val := h10_; clear h10_; subst q_
            have q_ : v11_ = (.bool (fv == r)) := h11_; clear h11_; subst q_
            have q_ : v12_ = (.bool (fv == r)) := h12_; clear h12_; subst q_
            have q_ : v13_ = (.bool true) := h13_; clear h13_; subst q_
            have q_ : v14_ = (.bool true) := h14_; clear h14_; subst q_
            simp only [endD, putsD, Act.put, List.setIfInBounds_toArray, List.set_cons_succ, List.set_cons_zero]
            have HQ := hid hq_; clear hq_
            have HB_ := hid hb_; clear hb_
            go_wp2
            go_ret
            exact RetB.mk rfl HQ.out.dropRow.dropBlk.dropBlk.dropBlk.dropBlk.below
          · have HZ := hid (show (fc == 0) = false by simpa using hz)
            have HEQ := hid (show (vb == false) = true by rw [← HVB.out]; unfold verB; rw [HFC.out, HZ.out]; rfl)
            clear hz
            refine wp_region_F [(fun u_ => u_ = x.val), (fun u_ => u_ = (.int .i64 i)), (fun u_ => u_ = (.slice ap p.length cp)), (fun _ => True), (fun u_ => u_ = (.tuple #[fv.val, .int .i64 fc])), (fun u_ => u_ = (.tuple #[fv.val, .int .i64 fc])), (fun u_ => u_ = fv.val), (fun u_ => u_ = (.int .i64 fc)), (isPtr), (fun _ => True), (fun u_ => u_ = (.int .i64 fc))] (AJ w [] [(g9_, objC r.cells 34), (g5_, objC x.cells 41), (g3_, objC (claimCs i x (.slice ap p.length cp)) 79)] (rowsO 3 78 34 16 p.length (flat p) [rowA 34 ao1 cap1 l]) 8 9 14 34 (Arr.zero 16).cells fv.cells) (by kernel_rfl) (by kernel_rfl) rfl (HH.out.drew) ?_ ?_
            · refine eachD_cons ?_ (eachD_cons ?_ (eachD_cons ?_ (eachD_cons ?_ (eachD_cons ?_ (eachD_cons ?_ (eachD_cons ?_ (eachD_cons ?_ (eachD_cons ?_ (eachD_cons ?_ (eachD_cons ?_ (eachD_nil)))))))))))
              · intro li_ a_ w1 hc hi hJ hF hS
                have e5 : a_.eval (.tmp 5) = (.pointer (some ⟨g5_, 0, none⟩)) := (hF.2.2 5 (notDst_of (by kernel_rfl))).trans rfl
                refine wantD (by rfl) ?_
                exact ok_load kA41 hJ e5 (Own.opt (.there .here)) (Arr.len _) ⟨hJ, rfl⟩
              · intro li_ a_ w1 hc hi hJ hF hS
                have e6 : a_.eval (.tmp 6) = (.int .i64 i) := (hF.2.2 6 (notDst_of (by kernel_rfl))).trans rfl
                refine wantD (by rfl) ?_
                exact opF_val rfl (ex_move rfl w1) hJ e6
              · intro li_ a_ w1 hc hi hJ hF hS
                have e7 : a_.eval (.tmp 7) = (.slice ap p.length cp) := (hF.2.2 7 (notDst_of (by kernel_rfl))).trans rfl
                refine wantD (by rfl) ?_
                exact opF_val rfl (ex_move rfl w1) hJ e7
              · intro li_ a_ w1 hc hi hJ hF hS
                have l2 : li_ 2 = true := (hS ⟨2, .data⟩ (by simp) rfl).1
                have e77 : a_.eval (.tmp 77) = (.slice ap p.length cp) := (hS ⟨2, .data⟩ (by simp) rfl).2 _ rfl
                refine wantD (by rfl) ?_
                exact opF_call kB49 rfl ((ownN_any w1 _ p (by rw [e77]; exact Holds.sl hJ HP.out) (by omega)).mono fun e w' ⟨a', c', he, hr, hb⟩ => ⟨_, he, AJ.addRow hJ hi (by decide) (by decide) (by decide) hb hr, trivial⟩)
              · intro li_ a_ w1 hc hi hJ hF hS
                have l0 : li_ 0 = true := (hS ⟨0, .data⟩ (by simp) rfl).1
                have l1 : li_ 1 = true := (hS ⟨1, .data⟩ (by simp) rfl).1
                have l3 : li_ 3 = true := (hS ⟨3, .data⟩ (by simp) rfl).1
                have e75 : a_.eval (.tmp 75) = x.val := (hS ⟨0, .data⟩ (by simp) rfl).2 _ rfl
                have e76 : a_.eval (.tmp 76) = (.int .i64 i) := (hS ⟨1, .data⟩ (by simp) rfl).2 _ rfl
                refine wantD (by rfl) ?_
                exact opF_call (args := #[x.val, .int .i64 i, a_.eval (.tmp 78)]) kB54 (by show #[a_.eval (.tmp 75), a_.eval (.tmp 76), a_.eval (.tmp 78)] = _; rw [e75, e76]) ((from_any w1 _ x i p (AJ.slRow hJ l3) (by omega)).mono fun e w' ⟨he, hb⟩ => ⟨_, he, AJ.grow hJ hb, by rw [HFV.out, HFC.out]; rfl⟩)
              · intro li_ a_ w1 hc hi hJ hF hS
                have l4 : li_ 4 = true := (hS ⟨4, .data⟩ (by simp) rfl).1
                have e79 : a_.eval (.tmp 79) = (.tuple #[fv.val, .int .i64 fc]) := (hS ⟨4, .data⟩ (by simp) rfl).2 _ rfl
                refine wantD (by rfl) ?_
                exact opF_val rfl (ex_move rfl w1) hJ e79
              · intro li_ a_ w1 hc hi hJ hF hS
                have l5 : li_ 5 = true := (hS ⟨5, .data⟩ (by simp) rfl).1
                have e74 : a_.eval (.tmp 74) = (.tuple #[fv.val, .int .i64 fc]) := (hS ⟨5, .data⟩ (by simp) rfl).2 _ rfl
                refine wantD (by rfl) ?_
                exact opF_val rfl (ex_extract e74 rfl w1) hJ rfl
              · intro li_ a_ w1 hc hi hJ hF hS
                have l5 : li_ 5 = true := (hS ⟨5, .data⟩ (by simp) rfl).1
                have e74 : a_.eval (.tmp 74) = (.tuple #[fv.val, .int .i64 fc]) := (hS ⟨5, .data⟩ (by simp) rfl).2 _ rfl
                refine wantD (by rfl) ?_
                exact opF_val rfl (ex_extract e74 rfl w1) hJ rfl
              · intro li_ a_ w1 hc hi hJ hF hS
                refine wantD (by rfl) ?_
                exact aj_alloc kZ34 hJ hi (hc.off (j := 9) (by kernel_rfl) hi) (by decide) (fun _ => rfl)
              · intro li_ a_ w1 hc hi hJ hF hS
                have l8 : li_ 8 = true := (hS ⟨8, .data⟩ (by simp) rfl).1
                have l6 : li_ 6 = true := (hS ⟨6, .data⟩ (by simp) rfl).1
                have l4 : li_ 4 = true := (hS ⟨4, .chain⟩ (by simp) rfl).1
                have l0 : li_ 0 = true := (hS ⟨0, .phase⟩ (by simp) rfl).1
                have l1 : li_ 1 = true := (hS ⟨1, .phase⟩ (by simp) rfl).1
                have l2 : li_ 2 = true := (hS ⟨2, .phase⟩ (by simp) rfl).1
                have l3 : li_ 3 = true := (hS ⟨3, .phase⟩ (by simp) rfl).1
                have l5 : li_ 5 = true := (hS ⟨5, .phase⟩ (by simp) rfl).1
                have e14 : (isPtr) (a_.eval (.tmp 14)) := (hS ⟨8, .data⟩ (by simp) rfl).2 _ rfl
                have e80 : a_.eval (.tmp 80) = fv.val := (hS ⟨6, .data⟩ (by simp) rfl).2 _ rfl
                refine wantD (by rfl) ?_
                exact aj_store kS34 (Arr.len _) (Arr.len _) (cells_one _) hJ l8 hi (by decide) e14 e80 rfl
              · intro li_ a_ w1 hc hi hJ hF hS
                have l7 : li_ 7 = true := (hS ⟨7, .data⟩ (by simp) rfl).1
                have l9 : li_ 9 = true := (hS ⟨9, .chain⟩ (by simp) rfl).1
                have l0 : li_ 0 = true := (hS ⟨0, .phase⟩ (by simp) rfl).1
                have l1 : li_ 1 = true := (hS ⟨1, .phase⟩ (by simp) rfl).1
                have l2 : li_ 2 = true := (hS ⟨2, .phase⟩ (by simp) rfl).1
                have l3 : li_ 3 = true := (hS ⟨3, .phase⟩ (by simp) rfl).1
                have l4 : li_ 4 = true := (hS ⟨4, .phase⟩ (by simp) rfl).1
                have l5 : li_ 5 = true := (hS ⟨5, .phase⟩ (by simp) rfl).1
                have l6 : li_ 6 = true := (hS ⟨6, .phase⟩ (by simp) rfl).1
                have l8 : li_ 8 = true := (hS ⟨8, .phase⟩ (by simp) rfl).1
                have e81 : a_.eval (.tmp 81) = (.int .i64 fc) := (hS ⟨7, .data⟩ (by simp) rfl).2 _ rfl
                refine wantD (by rfl) ?_
                exact opF_val rfl (ex_assign rfl w1) hJ e81
            intro v0_ h0_ v1_ h1_ v2_ h2_ v3_ h3_ v4_ h4_ v5_ h5_ v6_ h6_ v7_ h7_ v8_ h8_ v9_ h9_ v10_ h10_
            intro wq hq_
            have q_ : v0_ = x.val := h0_; clear h0_; subst q_
            have q_ : v1_ = (.int .i64 i) := h1_; clear h1_; subst q_
            have q_ : v2_ = (.slice ap p.length cp) := h2_; clear h2_; subst q_
            clear h3_
            have q_ : v4_ = (.tuple #[fv.val, .int .i64 fc]) := h4_; clear h4_; subst q_
            have q_ : v5_ = (.tuple #[fv.val, .int .i64 fc]) := h5_; clear h5_; subst q_
            have q_ : v6_ = fv.val := h6_; clear h6_; subst q_
            have q_ : v7_ = (.int .i64 fc) := h7_; clear h7_; subst q_
            obtain ⟨g14_, rfl⟩ := h8_
            clear h9_
            have q_ : v10_ = (.int .i64 fc) := h10_; clear h10_; subst q_
            have HQ := hid hq_; clear hq_
            simp only [putsD, Act.put, List.setIfInBounds_toArray, List.set_cons_succ, List.set_cons_zero]
            have hq2_ : Holds w [] [(g14_, objC fv.cells 34), (g9_, objC r.cells 34), (g5_, objC x.cells 41), (g3_, objC (claimCs i x (.slice ap p.length cp)) 79)] [rowA 34 ao1 cap1 l] wq := Holds.dropRow HQ.out
            clear HH HQ
            have HH := hid hq2_
            clear hq2_
            go_wp2_with (first
              | ((first
                  | ((with_reducible apply wpL_skip); rfl; skip)
                  | (go_at_call 55; (have hcall_ := hid (pairs_any _ (.slice ap p.length cp) x i p (HH.out.sl HP.out) (by omega))); (with_reducible refine hcall_.out.mono ?_); clear hcall_; rw [HFV.out, HFC.out]; rintro e_ w2_ ⟨ao3, cap3, rfl, hr_, hb_⟩; (have hq_ := HH.out.grow hb_); clear HH; have HH := hid hq_; clear hq_ hb_ hr_)
                  | ((with_reducible apply wpL_neqA (b := false) (p := fv) (q := fv) kR34); rfl; rfl; (exact arrNe _); rfl)
                  | ((with_reducible apply wpL_nilCheck); rfl; rfl)
                  | ((with_reducible apply wpL_fieldAddr); (first | exact kF79_0 | exact kF79_1 | exact kF79_2); rfl; rfl)
                  | ((with_reducible apply wpL_load1 (t := 3) kO3 HH.out); rfl; (first | exact .here | exact .there .here | exact .there (.there .here) | exact .there (.there (.there .here)) | exact .there (.there (.there (.there .here))) | exact .there (.there (.there (.there (.there .here)))) | exact .there (.there (.there (.there (.there (.there .here))))) | exact .there (.there (.there (.there (.there (.there (.there .here))))))); rfl; rfl)
                  | ((with_reducible apply wpL_load1 (t := 30) kO30 HH.out); rfl; (first | exact .here | exact .there .here | exact .there (.there .here) | exact .there (.there (.there .here)) | exact .there (.there (.there (.there .here))) | exact .there (.there (.there (.there (.there .here)))) | exact .there (.there (.there (.there (.there (.there .here))))) | exact .there (.there (.there (.there (.there (.there (.there .here))))))); rfl; rfl)
                  | ((with_reducible apply wpL_loadArr (t := 34) kA34 HH.out); rfl; (first | exact .here | exact .there .here | exact .there (.there .here) | exact .there (.there (.there .here)) | exact .there (.there (.there (.there .here))) | exact .there (.there (.there (.there (.there .here)))) | exact .there (.there (.there (.there (.there (.there .here))))) | exact .there (.there (.there (.there (.there (.there (.there .here))))))); rfl)
                  | ((with_reducible apply wpL_loadC (t := 34) kA34 HH.out); rfl; (first | exact .here | exact .there .here | exact .there (.there .here) | exact .there (.there (.there .here)) | exact .there (.there (.there (.there .here))) | exact .there (.there (.there (.there (.there .here)))) | exact .there (.there (.there (.there (.there (.there .here))))) | exact .there (.there (.there (.there (.there (.there (.there .here))))))); (first | rfl | exact Arr.len _ | (simp; done)); rfl)
                  | ((with_reducible apply wpL_loadArr (t := 41) kA41 HH.out); rfl; (first | exact .here | exact .there .here | exact .there (.there .here) | exact .there (.there (.there .here)) | exact .there (.there (.there (.there .here))) | exact .there (.there (.there (.there (.there .here)))) | exact .there (.there (.there (.there (.there (.there .here))))) | exact .there (.there (.there (.there (.there (.there (.there .here))))))); rfl)
                  | ((with_reducible apply wpL_loadC (t := 41) kA41 HH.out); rfl; (first | exact .here | exact .there .here | exact .there (.there .here) | exact .there (.there (.there .here)) | exact .there (.there (.there (.there .here))) | exact .there (.there (.there (.there (.there .here)))) | exact .there (.there (.there (.there (.there (.there .here))))) | exact .there (.there (.there (.there (.there (.there (.there .here))))))); (first | rfl | exact Arr.len _ | (simp; done)); rfl)
                  | ((with_reducible apply wpL_len (t := 30) Try.underlying30); rfl; rfl)
                  | ((with_reducible apply wpL_len (t := 46) Try.underlying46); rfl; rfl)
                  | ((with_reducible apply wpL_boxC (dst := some 3)); rfl; (exact HH.out); rfl; (intro g3_ w_ hq_; (try simp only [List.set_cons_zero, List.set_cons_succ] at hq_); clear HH; have HH := hid hq_; clear hq_))
                  | ((with_reducible apply wpL_allocC (dst := some 5) kZ41 HH.out); rfl; (intro g5_ w_ hq_; (try simp only [List.set_cons_zero, List.set_cons_succ] at hq_); clear HH; have HH := hid hq_; clear hq_))
                  | ((with_reducible apply wpL_allocC (dst := some 9) kZ34 HH.out); rfl; (intro g9_ w_ hq_; (try simp only [List.set_cons_zero, List.set_cons_succ] at hq_); clear HH; have HH := hid hq_; clear hq_))
                  | ((with_reducible apply wpL_allocC (dst := some 14) kZ34 HH.out); rfl; (intro g14_ w_ hq_; (try simp only [List.set_cons_zero, List.set_cons_succ] at hq_); clear HH; have HH := hid hq_; clear hq_))
                  | ((with_reducible apply wpL_allocC (dst := some 17) kZ41 HH.out); rfl; (intro g17_ w_ hq_; (try simp only [List.set_cons_zero, List.set_cons_succ] at hq_); clear HH; have HH := hid hq_; clear hq_))
                  | ((with_reducible apply wpL_storeArr (t := 34) kS34 HH.out); rfl; rfl; (first | exact .here | exact .there .here | exact .there (.there .here) | exact .there (.there (.there .here)) | exact .there (.there (.there (.there .here))) | exact .there (.there (.there (.there (.there .here)))) | exact .there (.there (.there (.there (.there (.there .here))))) | exact .there (.there (.there (.there (.there (.there (.there .here))))))); (first | rfl | exact Arr.len _ | (simp; done)); rfl; (intro w_ hq_; (try simp only [List.set_cons_zero, List.set_cons_succ] at hq_); clear HH; have HH := hid hq_; clear hq_))
                  | ((with_reducible apply wpL_storeC (t := 34)); rfl; rfl; (exact kS34); (exact HH.out); (first | exact .here | exact .there .here | exact .there (.there .here) | exact .there (.there (.there .here)) | exact .there (.there (.there (.there .here))) | exact .there (.there (.there (.there (.there .here)))) | exact .there (.there (.there (.there (.there (.there .here))))) | exact .there (.there (.there (.there (.there (.there (.there .here))))))); (first | rfl | exact Arr.len _ | (simp; done)); (first | rfl | (intro u_ hu_; simp only [List.mem_cons, List.not_mem_nil, or_false] at hu_; rcases hu_ with rfl | hu_; rfl) | exact byt_cell1 _ | exact cells_one _ | exact wrd_one _ | exact flat_cell1 _); (first | rfl | exact Arr.len _ | (simp; done)); rfl; (intro w_ hq_; (try simp only [List.set_cons_zero, List.set_cons_succ] at hq_); clear HH; have HH := hid hq_; clear hq_))
                  | ((with_reducible apply wpL_storeArr (t := 41) kS41 HH.out); rfl; rfl; (first | exact .here | exact .there .here | exact .there (.there .here) | exact .there (.there (.there .here)) | exact .there (.there (.there (.there .here))) | exact .there (.there (.there (.there (.there .here)))) | exact .there (.there (.there (.there (.there (.there .here))))) | exact .there (.there (.there (.there (.there (.there (.there .here))))))); (first | rfl | exact Arr.len _ | (simp; done)); rfl; (intro w_ hq_; (try simp only [List.set_cons_zero, List.set_cons_succ] at hq_); clear HH; have HH := hid hq_; clear hq_))
                  | ((with_reducible apply wpL_storeC (t := 41)); rfl; rfl; (exact kS41); (exact HH.out); (first | exact .here | exact .there .here | exact .there (.there .here) | exact .there (.there (.there .here)) | exact .there (.there (.there (.there .here))) | exact .there (.there (.there (.there (.there .here)))) | exact .there (.there (.there (.there (.there (.there .here))))) | exact .there (.there (.there (.there (.there (.there (.there .here))))))); (first | rfl | exact Arr.len _ | (simp; done)); (first | rfl | (intro u_ hu_; simp only [List.mem_cons, List.not_mem_nil, or_false] at hu_; rcases hu_ with rfl | hu_; rfl) | exact byt_cell1 _ | exact cells_one _ | exact wrd_one _ | exact flat_cell1 _); (first | rfl | exact Arr.len _ | (simp; done)); rfl; (intro w_ hq_; (try simp only [List.set_cons_zero, List.set_cons_succ] at hq_); clear HH; have HH := hid hq_; clear hq_))
                  | ((with_reducible apply wpL_move); rfl; rfl)
                  | ((with_reducible apply wpL_assign); rfl; rfl)
                  | ((with_reducible apply wpL_pick); rfl; rfl; rfl)
                  | ((with_reducible apply wpL_not); rfl; rfl)
                  | ((with_reducible apply wpL_cmp (b := true)); rfl; rfl; rfl; (first | rfl | assumption | (simp only [cmpB, decide_eq_true_eq, decide_eq_false_iff_not, beq_iff_eq, bne_iff_ne, ne_eq, beq_eq_false_iff_ne, bne_eq_false_iff_eq, gt_iff_lt, ge_iff_le]; omega) | (simp; omega)); rfl)
                  | ((with_reducible apply wpL_cmp (b := false)); rfl; rfl; rfl; (first | rfl | assumption | (simp only [cmpB, decide_eq_true_eq, decide_eq_false_iff_not, beq_iff_eq, bne_iff_ne, ne_eq, beq_eq_false_iff_ne, bne_eq_false_iff_eq, gt_iff_lt, ge_iff_le]; omega) | (simp; omega)); rfl)
                  | ((with_reducible apply wpL_cmp); rfl; rfl; rfl; rfl; rfl)
                  | ((with_reducible apply wpL_arith); rfl; rfl; rfl; (exact IntWalk.i64_in _ (by (try simp only [arithI]); omega)); rfl)); (try simp only [arithI, Act.put, Act.eval, List.setIfInBounds_toArray, List.set_cons_succ, List.set_cons_zero, Array.getD_eq_getD_getElem?, List.getElem?_toArray, List.getElem?_cons_succ, List.getElem?_cons_zero, Option.getD_some])))
            refine wp_region_R [Asr.is r.val, Asr.is x.val, Asr.is (.int .i64 i), Asr.is (.slice ap p.length cp), Asr.row w.heap.size 34 16 p.length (flat p), Asr.is (.bool vb), Asr.is (.int .i64 fc), Asr.is (.bool false), Asr.is (.bool false), Asr.any, Asr.any, Asr.any, Asr.is (.bool false), Asr.is (.bool true), Asr.is (.bool true)] HH.out (by kernel_rfl) (by kernel_rfl) rfl ?_ ?_
            · refine eachD_cons ?_ (eachD_cons ?_ (eachD_cons ?_ (eachD_cons ?_ (eachD_cons ?_ (eachD_cons ?_ (eachD_cons ?_ (eachD_cons ?_ (eachD_cons ?_ (eachD_cons ?_ (eachD_cons ?_ (eachD_cons ?_ (eachD_cons ?_ (eachD_cons ?_ (eachD_cons ?_ (eachD_nil)))))))))))))))
              · intro a_ w1 hI hF hS
                have e9 : a_.eval (.tmp 9) = (.pointer (some ⟨g9_, 0, none⟩)) := (hF.2.2 9 (notDst_of (by kernel_rfl))).trans rfl
                refine wantD (by rfl) ?_
                exact op_val rfl (ex_loadA kA34 hI.1 e9 (by first | exact .here | exact .there .here | exact .there (.there .here) | exact .there (.there (.there .here)))) rfl
              · intro a_ w1 hI hF hS
                have e5 : a_.eval (.tmp 5) = (.pointer (some ⟨g5_, 0, none⟩)) := (hF.2.2 5 (notDst_of (by kernel_rfl))).trans rfl
                refine wantD (by rfl) ?_
                exact op_val rfl (ex_loadA kA41 hI.1 e5 (by first | exact .here | exact .there .here | exact .there (.there .here) | exact .there (.there (.there .here)))) rfl
              · intro a_ w1 hI hF hS
                have e6 : a_.eval (.tmp 6) = (.int .i64 i) := (hF.2.2 6 (notDst_of (by kernel_rfl))).trans rfl
                refine wantD (by rfl) ?_
                exact op_val rfl (ex_move rfl w1) e6
              · intro a_ w1 hI hF hS
                have e7 : a_.eval (.tmp 7) = (.slice ap p.length cp) := (hF.2.2 7 (notDst_of (by kernel_rfl))).trans rfl
                refine wantD (by rfl) ?_
                exact op_val rfl (ex_move rfl w1) e7
              · intro a_ w1 hI hF hS
                have e101 : a_.eval (.tmp 101) = (.slice ap p.length cp) := hS ⟨3, .data⟩ (by simp) rfl _ rfl
                refine wantD (by rfl) ?_
                exact op_call kB49 rfl ((ownN_any w1 _ p (by rw [e101]; exact Holds.sl hI.1 HP.out) (by omega)).mono fun e w' ⟨a', c', he, hr, hb⟩ => ⟨_, he, hb, row_base hr hI.1.size⟩)
              · intro a_ w1 hI hF hS
                have e98 : a_.eval (.tmp 98) = r.val := hS ⟨0, .data⟩ (by simp) rfl _ rfl
                have e99 : a_.eval (.tmp 99) = x.val := hS ⟨1, .data⟩ (by simp) rfl _ rfl
                have e100 : a_.eval (.tmp 100) = (.int .i64 i) := hS ⟨2, .data⟩ (by simp) rfl _ rfl
                have e102 : (Asr.row w.heap.size 34 16 p.length (flat p)).p (a_.eval (.tmp 102)) w1 := hS ⟨4, .data⟩ (by simp) rfl _ rfl
                refine wantD (by rfl) ?_
                exact op_call (args := #[r.val, x.val, .int .i64 i, a_.eval (.tmp 102)]) kB53 (by show #[a_.eval (.tmp 98), a_.eval (.tmp 99), a_.eval (.tmp 100), a_.eval (.tmp 102)] = _; rw [e98, e99, e100]) ((verify_any w1 _ r x i p (Sl.of_row e102) (by omega)).mono fun e w' ⟨he, hb⟩ => ⟨_, he, hb, by rw [HVB.out]; rfl⟩)
              · intro a_ w1 hI hF hS
                have e15 : a_.eval (.tmp 15) = (.int .i64 fc) := (hF.2.2 15 (notDst_of (by kernel_rfl))).trans rfl
                refine wantD (by rfl) ?_
                exact op_val rfl (ex_move rfl w1) e15
              · intro a_ w1 hI hF hS
                have e104 : a_.eval (.tmp 104) = (.int .i64 fc) := hS ⟨6, .data⟩ (by simp) rfl _ rfl
                refine wantD (by rfl) ?_
                exact op_val rfl (ex_cmp (b := false) rfl e104 (by rfl) (by simp only [cmpB]; exact HZ.out) w1) rfl
              · intro a_ w1 hI hF hS
                have e105 : a_.eval (.tmp 105) = (.bool false) := hS ⟨7, .data⟩ (by simp) rfl _ rfl
                refine wantD (by rfl) ?_
                exact op_val rfl (ex_move rfl w1) e105
              · intro a_ w1 hI hF hS
                have e14 : a_.eval (.tmp 14) = (.pointer (some ⟨g14_, 0, none⟩)) := (hF.2.2 14 (notDst_of (by kernel_rfl))).trans rfl
                have e106 : a_.eval (.tmp 106) = (.bool false) := hS ⟨8, .guard⟩ (by simp) rfl _ rfl
                exact skipD (wanted_of (j := 8) (b := false) (want := true) (by rfl) (by rfl) e106 rfl) trivial
              · intro a_ w1 hI hF hS
                have e9 : a_.eval (.tmp 9) = (.pointer (some ⟨g9_, 0, none⟩)) := (hF.2.2 9 (notDst_of (by kernel_rfl))).trans rfl
                have e106 : a_.eval (.tmp 106) = (.bool false) := hS ⟨8, .guard⟩ (by simp) rfl _ rfl
                exact skipD (wanted_of (j := 8) (b := false) (want := true) (by rfl) (by rfl) e106 rfl) trivial
              · intro a_ w1 hI hF hS
                have e106 : a_.eval (.tmp 106) = (.bool false) := hS ⟨8, .guard⟩ (by simp) rfl _ rfl
                exact skipD (wanted_of (j := 8) (b := false) (want := true) (by rfl) (by rfl) e106 rfl) trivial
              · intro a_ w1 hI hF hS
                have e106 : a_.eval (.tmp 106) = (.bool false) := hS ⟨8, .data⟩ (by simp) rfl _ rfl
                refine wantD (by rfl) ?_
                exact op_val rfl (ex_pick e106 rfl w1) rfl
              · intro a_ w1 hI hF hS
                have e103 : a_.eval (.tmp 103) = (.bool vb) := hS ⟨5, .data⟩ (by simp) rfl _ rfl
                have e110 : a_.eval (.tmp 110) = (.bool false) := hS ⟨12, .data⟩ (by simp) rfl _ rfl
                refine wantD (by rfl) ?_
                exact op_val rfl (ex_eqBool Try.underlying4 e103 e110 HEQ.out w1) rfl
              · intro a_ w1 hI hF hS
                have e111 : a_.eval (.tmp 111) = (.bool true) := hS ⟨13, .data⟩ (by simp) rfl _ rfl
                refine wantD (by rfl) ?_
                exact op_val rfl (ex_assign rfl w1) e111
            intro wq hq_ hb_
            intro v0_ h0_ v1_ h1_ v2_ h2_ v3_ h3_ v4_ h4_ v5_ h5_ v6_ h6_ v7_ h7_ v8_ h8_ v9_ h9_ v10_ h10_ v11_ h11_ v12_ h12_ v13_ h13_ v14_ h14_
            have q_ : v0_ = r.val := h0_; clear h0_; subst q_
            have q_ : v1_ = x.val := h1_; clear h1_; subst q_
            have q_ : v2_ = (.int .i64 i) := h2_; clear h2_; subst q_
            have q_ : v3_ = (.slice ap p.length cp) := h3_; clear h3_; subst q_
            have K4 := hid h4_; clear h4_
            have q_ : v5_ = (.bool vb) := h5_; clear h5_; subst q_
            have q_ : v6_ = (.int .i64 fc) := h6_; clear h6_; subst q_
            have q_ : v7_ = (.bool false) := h7_; clear h7_; subst q_
            have q_ : v8_ = (.bool false) := h8_; clear h8_; subst q_
            clear h9_
            clear h10_
            clear h11_
            have q_ : v12_ = (.bool false) := h12_; clear h12_; subst q_
            have q_ : v13_ = (.bool true) := h13_; clear h13_; subst q_
            have q_ : v14_ = (.bool true) := h14_; clear h14_; subst q_
            simp only [endD, putsD, Act.put, List.setIfInBounds_toArray, List.set_cons_succ, List.set_cons_zero]
            have HQ := hid hq_; clear hq_
            have HB_ := hid hb_; clear hb_
            go_wp2
            go_ret
            exact RetB.mk rfl HQ.out.dropRow.dropBlk.dropBlk.dropBlk.dropBlk.below
end Go.Proofs.Ytgkfopodhikckaa
namespace Go.Proofs.Ytgkfopodhikckaa
open Go.ChangeShapes Go.WideShapes Go.ChangeAt Go.RowKit
set_option maxRecDepth 100000 in
theorem merkleVerify_lifted (os : Os) (started : os.Started) (H : Type) (enc : TypeId × Value → H) :
    ReturnsInHanded {} Try.checked os 16 .any (Rows.merkleVerifySpec.pre6 enc Try.prog Try.f16 Rows.merkleVerifyRow.domain false) (Rows.merkleVerifySpec.post enc Try.prog Try.f16 false true false false) := by
  refine returnsInHanded_of_change_sized (C := Try.checked) Try.own started (by kernel_rfl) Try.func16
    (ChangeSpec.witness6 (enc := enc) (C := Try.checked) false ⟨#[], #[.slice none 0 0, .agg (claimCs 0 (Arr.zero 16) (.slice none 0 0)).toArray], []⟩ 8 (by kernel_rfl) (by kernel_rfl) (by kernel_rfl) (by kernel_rfl)) ?_
  intro W base args ds gs before hval0 hW _ hsz0 _
  have hsz : (DataW.weightsEach Try.prog (Try.f16.params.toList ++ Rows.merkleVerifySpec.plain.varTypes Try.prog) (ds ++ gs)).all (· ≤ reachBytes) = true := hsz0
  have hval : ∀ (j : Nat) t v, Try.f16.params[j]? = some t → args[j]? = some v → Value.okWide Try.prog W .any base t v := hval0
  have hW' := hW
  obtain ⟨p, q, hA0, hV, rfl, _, _⟩ := hW
  have hA : DataW.TrodAll enc Try.prog W 0 (fun _ => true) true Try.f16.params.toList args.toList ds p := hA0
  rw [Try.params16] at hA hval hsz
  obtain ⟨v0, v1, d0, d1, p0, p1, rfl, rfl, rfl, h0, h1⟩ := trodAll_two hA
  obtain ⟨rfl, rfl⟩ := trodVars_none hV
  obtain ⟨l, hl⟩ := open_nodes (hval 0 30 v0 rfl rfl) h0
  obtain ⟨ci, cx, cv, cp, cw, ch, rfl⟩ := open_claim (hval 1 79 v1 rfl rfl) h1
  refine (law_verify W v0 l ci cx cv cp hl ch).mono fun e W' ⟨he, hb⟩ => ?_
  exact ⟨_, he, post_true (tb := 4) Try.laidOut (readable_of (by kernel_rfl)) (by kernel_rfl) Try.underlying4 hW' rfl rfl hb⟩
theorem MerkleVerify_holds : Rows.MerkleVerifySaid :=
  OpenClaim.holds_of_wide 16 Try.f16 rfl rfl rfl rfl rfl rfl rfl ⟨rfl, rfl, rfl, rfl, rfl⟩ rfl rfl rfl rfl rfl (by kernel_rfl) Try.func16 (by kernel_rfl)
    (of_decide_eq_true (by kernel_rfl)) (by unfold Func.isWrapper; rw [if_neg (by decide +kernel)]; exact ⟨rfl, rfl⟩)
    (fun os started H enc _ => merkleVerify_lifted os started H enc)
end Go.Proofs.Ytgkfopodhikckaa
