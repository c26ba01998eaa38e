/- Join of the reference. No condition. -/
import Derived.Test.YtgkfopodhikckaaQe4fa9ea
import Derived.Laws.CopyRow
import Derived.Test.YtgkfopodhikckaaRows
import Derived.Deep.Matrix
import Derived.ChangeMaps5
import Derived.Lib.AppendZerosOnto
import Derived.Shelf.Spec.SlicesGrow
import Derived.Lib.Bytealg
set_option linter.unusedSimpArgs false
set_option linter.unusedVariables false
/- Arrays held against each other, copied; SumHalf, Half, the laws Sha256Sum and Sha256Half. Condition: a slice of at most 2^47 bytes. -/
namespace Go.Proofs.Ytgkfopodhikckaa
open Go.RowKit
section
variable {P : Program} {ops : Array Oper} {rest : List Oper} {a : Act} {dst : Option Tmp} {ty : TypeId} {pos : String} {after : Array Edge} {guard : Option (Nat × Bool)} {w w0 : World} {S : List Nat} {bs bs' : List (Nat × Obj)} {rows : List Row} {Q : Exit → Act → World → Prop} {C : World → Prop} {K : Act → Prop}
theorem wpL_eqlA {n : Nat} {t : TypeId} {b : Bool} {p q : Arr n} (hA : ArrT P t n) {x y : Operand} {yt : TypeId} (hx : a.eval x = p.val) (hy : a.eval y = q.val) (hb : (p == q) = b)
    (hg : Region.wanted { dst := dst, op := .binOp .eql t x y yt, type := ty, pos := pos, after := after, guard := guard } (yielded ops a.tmps) = true)
    (h : wpList P ops Q rest (a.put dst (.bool b)) w) : wpList P ops Q ({ dst := dst, op := .binOp .eql t x y yt, type := ty, pos := pos, after := after, guard := guard } :: rest) a w := by
  subst hb; exact wpList_eql_arr hA hx hy hg h
theorem wpL_neqA {n : Nat} {t : TypeId} {b : Bool} {p q : Arr n} (hA : ArrT P t n) {x y : Operand} {yt : TypeId} (hx : a.eval x = p.val) (hy : a.eval y = q.val) (hb : (!(p == q)) = b)
    (hg : Region.wanted { dst := dst, op := .binOp .neq t x y yt, type := ty, pos := pos, after := after, guard := guard } (yielded ops a.tmps) = true)
    (h : wpList P ops Q rest (a.put dst (.bool b)) w) : wpList P ops Q ({ dst := dst, op := .binOp .neq t x y yt, type := ty, pos := pos, after := after, guard := guard } :: rest) a w := by
  subst hb; exact wpList_neq_arr hA hx hy hg h
theorem wpQ_eqlA {n : Nat} {t : TypeId} {b : Bool} {p q : Arr n} (hA : ArrT P t n) {x y : Operand} {yt : TypeId} (hx : a.eval x = p.val) (hy : a.eval y = q.val) (hb : (p == q) = b)
    (hg : Region.wanted { dst := dst, op := .binOp .eql t x y yt, type := ty, pos := pos, after := after, guard := guard } (yielded ops a.tmps) = true)
    (h : wpQuiet P ops C K rest (a.put dst (.bool b))) : wpQuiet P ops C K ({ dst := dst, op := .binOp .eql t x y yt, type := ty, pos := pos, after := after, guard := guard } :: rest) a := by
  subst hb; exact wpQ_eql_arr hA hx hy hg h
theorem wpQ_neqA {n : Nat} {t : TypeId} {b : Bool} {p q : Arr n} (hA : ArrT P t n) {x y : Operand} {yt : TypeId} (hx : a.eval x = p.val) (hy : a.eval y = q.val) (hb : (!(p == q)) = b)
    (hg : Region.wanted { dst := dst, op := .binOp .neq t x y yt, type := ty, pos := pos, after := after, guard := guard } (yielded ops a.tmps) = true)
    (h : wpQuiet P ops C K rest (a.put dst (.bool b))) : wpQuiet P ops C K ({ dst := dst, op := .binOp .neq t x y yt, type := ty, pos := pos, after := after, guard := guard } :: rest) a := by
  subst hb; exact wpQ_neq_arr hA hx hy hg h
theorem wpL_arrayAt {t e : TypeId} {n m c : Nat} {ao : Option Addr} {x : Operand} (ht : P.underlying t = some (.array n e)) (hx : a.eval x = .slice ao m c) (hn : n ≤ m)
    (hg : Region.wanted { dst := dst, op := .sliceToArrayPointer t x, type := ty, pos := pos, after := after, guard := guard } (yielded ops a.tmps) = true)
    (h : wpList P ops Q rest (a.put dst (.pointer ao)) w) : wpList P ops Q ({ dst := dst, op := .sliceToArrayPointer t x, type := ty, pos := pos, after := after, guard := guard } :: rest) a w := by
  refine wpList_ex hg ?_ h
  have : ¬ m < n := by omega
  simp [execOp, hx, Instr.arrayAt, run_underlying ht, this]
/-- copy into a block of the call's own. -/
theorem wpL_copyOwn {t e : TypeId} {x y : Operand} {g n cap m cap2 : Nat} {a2 : Addr} {cs news : List Value} {t2 e2 : TypeId} (ht : P.underlying t = some (.slice e)) (hs : (P.info? e).map (·.size) = some 1) (hx : a.eval x = .slice (some ⟨g, 0, none⟩) n cap) (hy : a.eval y = .slice (some a2) m cap2)
    (hH : Holds w0 S bs rows w) (hsrc : ∀ j v, news[j]? = some v → w.cell? (a2.add j) = some v) (hnl : news.length = Nat.min m n) (ho : Turn bs g (objC cs e2) (objC (news ++ cs.drop news.length) e2) bs') (hfit : news.length ≤ cs.length) (h1 : ∀ v ∈ news, v.oneCell' = true)
    (hg : Region.wanted { dst := dst, op := .call { callee := .builtin .copy, args := #[x, y], argTypes := #[t, t2] }, type := ty, pos := pos, after := after, guard := guard } (yielded ops a.tmps) = true)
    (h : ∀ w', Holds w0 S bs' rows w' → wpList P ops Q rest (a.put dst (.int .i64 news.length)) w') : wpList P ops Q ({ dst := dst, op := .call { callee := .builtin .copy, args := #[x, y], argTypes := #[t, t2] }, type := ty, pos := pos, after := after, guard := guard } :: rest) a w := by
  have hblk : w.heap[g]? = some (.cells cs.toArray e2 (0, 0)) := hH.at ho.own
  have hr := run_copy_row (P := P) w t t2 ty e g 0 n cap a2 m cap2 cs.toArray e2 news ht hs hblk hnl hsrc (by simpa using hfit) h1
  simp only [Nat.zero_add, List.take_zero, List.nil_append] at hr
  refine wpList_ex hg (v := .int .i64 news.length) ?_ (h _ (hH.turn ho (setRow_heap w g cs.toArray _ e2 (0, 0) hblk) rfl rfl rfl (by simp) fun k _ hk => setRow_other w g k _ hk))
  rw [BigFrame.execOp_builtin, BigFrame.builtin_copy]
  simp only [List.map_toArray, List.map_cons, List.map_nil, hx, hy, Sem.run_bind, hr, Result.andThen_ok, Sem.run_pure]
  rfl
end
def halfA (d : Arr 32) : Arr 16 := ⟨d.1.take 16, by rw [List.length_take, d.2]; rfl⟩
theorem halfA_cells (d : Arr 32) : (d.cells.drop 0).take 16 = (halfA d).cells := by simp [Arr.cells, halfA, List.map_take]
theorem halfA_len (d : Arr 32) : (halfA d).cells.length = 16 := Arr.len _
set_option maxRecDepth 100000 in
set_option maxHeartbeats 2000000 in
theorem sumHalf_any (w : World) (v : Value) (l : List UInt8) (hl : Byts w v l) (hn : l.length ≤ 900000) : Calls Try.prog 35 #[v] w (RetA w (halfA (sumB l))) := by
  obtain ⟨ao, cap, rfl, hc⟩ := hl.shape
  have HL := hid hl
  clear hl
  have HH := hid (Holds.init w)
  generalize hd : sumB l = d
  have HD := hid hd
  clear hd
  have HC := hid (halfA_cells d)
  go_enter Try.func35, Try.ntmps35
  go_wp2_with (first
    | ((first
        | ((with_reducible apply wpL_skip); rfl; skip)
        | (go_at_call 20; (with_reducible refine (shaSum_any _ _ l (HH.out.sl HL.out) hn).mono ?_); rw [HD.out]; rintro e_ w2_ ⟨rfl, hb_⟩; (have hq_ := HH.out.grow hb_); clear HH; have HH := hid hq_; clear hq_ hb_)
        | ((with_reducible apply wpL_storeC (t := 25) (vs := d.cells)); rfl; rfl; (exact kS25); (exact HH.out); (exact .here); (exact Arr.len _); (exact cells_one _); (exact Arr.len _); rfl; (intro w_ hq_; clear HH; have HH := hid hq_; clear hq_))
        | ((with_reducible apply wpL_sliceArrTo (m := 16) Try.underlying25 kS5); rfl; rfl; rfl; (exact (by omega)); rfl)
        | ((with_reducible apply wpL_arrayAt Try.underlying56); rfl; (exact (by omega)); rfl)
        | ((with_reducible apply wpL_loadPart (vs := (halfA d).cells) (t := 56) kA56 HH.out); rfl; (exact .here); (exact HC.out); (exact Arr.len _); rfl)
        | ((with_reducible apply wpL_storeC (t := 56) (vs := (halfA d).cells)); rfl; rfl; (exact kS56); (exact HH.out); (exact .there .here); (exact Arr.len _); (exact cells_one _); (exact Arr.len _); rfl; (intro w_ hq_; clear HH; have HH := hid hq_; clear hq_))
        | ((with_reducible apply wpL_nilCheck); rfl; rfl)
        | ((with_reducible apply wpL_loadArr (t := 56) kA56 HH.out); rfl; (first | exact .here | exact .there .here | exact .there (.there .here) | exact .there (.there (.there .here)) | exact .there (.there (.there (.there .here))) | exact .there (.there (.there (.there (.there .here)))) | exact .there (.there (.there (.there (.there (.there .here))))) | exact .there (.there (.there (.there (.there (.there (.there .here))))))); rfl)
        | ((with_reducible apply wpL_loadC (t := 56) kA56 HH.out); rfl; (first | exact .here | exact .there .here | exact .there (.there .here) | exact .there (.there (.there .here)) | exact .there (.there (.there (.there .here))) | exact .there (.there (.there (.there (.there .here)))) | exact .there (.there (.there (.there (.there (.there .here))))) | exact .there (.there (.there (.there (.there (.there (.there .here))))))); (first | rfl | exact Arr.len _ | (simp; done)); rfl)
        | ((with_reducible apply wpL_allocC (dst := some 2) kZ56 HH.out); rfl; (intro g2_ w_ hq_; (try simp only [List.set_cons_zero, List.set_cons_succ] at hq_); clear HH; have HH := hid hq_; clear hq_))
        | ((with_reducible apply wpL_allocC (dst := some 3) kZ25 HH.out); rfl; (intro g3_ w_ hq_; (try simp only [List.set_cons_zero, List.set_cons_succ] at hq_); clear HH; have HH := hid hq_; clear hq_))
        | ((with_reducible apply wpL_storeArr (t := 25) kS25 HH.out); rfl; rfl; (first | exact .here | exact .there .here | exact .there (.there .here) | exact .there (.there (.there .here)) | exact .there (.there (.there (.there .here))) | exact .there (.there (.there (.there (.there .here)))) | exact .there (.there (.there (.there (.there (.there .here))))) | exact .there (.there (.there (.there (.there (.there (.there .here))))))); (first | rfl | exact Arr.len _ | (simp; done)); rfl; (intro w_ hq_; (try simp only [List.set_cons_zero, List.set_cons_succ] at hq_); clear HH; have HH := hid hq_; clear hq_))
        | ((with_reducible apply wpL_storeC (t := 25)); rfl; rfl; (exact kS25); (exact HH.out); (first | exact .here | exact .there .here | exact .there (.there .here) | exact .there (.there (.there .here)) | exact .there (.there (.there (.there .here))) | exact .there (.there (.there (.there (.there .here)))) | exact .there (.there (.there (.there (.there (.there .here))))) | exact .there (.there (.there (.there (.there (.there (.there .here))))))); (first | rfl | exact Arr.len _ | (simp; done)); (first | rfl | (intro u_ hu_; simp only [List.mem_cons, List.not_mem_nil, or_false] at hu_; rcases hu_ with rfl | hu_; rfl) | exact byt_cell1 _ | exact cells_one _ | exact wrd_one _ | exact flat_cell1 _); (first | rfl | exact Arr.len _ | (simp; done)); rfl; (intro w_ hq_; (try simp only [List.set_cons_zero, List.set_cons_succ] at hq_); clear HH; have HH := hid hq_; clear hq_))
        | ((with_reducible apply wpL_storeArr (t := 56) kS56 HH.out); rfl; rfl; (first | exact .here | exact .there .here | exact .there (.there .here) | exact .there (.there (.there .here)) | exact .there (.there (.there (.there .here))) | exact .there (.there (.there (.there (.there .here)))) | exact .there (.there (.there (.there (.there (.there .here))))) | exact .there (.there (.there (.there (.there (.there (.there .here))))))); (first | rfl | exact Arr.len _ | (simp; done)); rfl; (intro w_ hq_; (try simp only [List.set_cons_zero, List.set_cons_succ] at hq_); clear HH; have HH := hid hq_; clear hq_))
        | ((with_reducible apply wpL_storeC (t := 56)); rfl; rfl; (exact kS56); (exact HH.out); (first | exact .here | exact .there .here | exact .there (.there .here) | exact .there (.there (.there .here)) | exact .there (.there (.there (.there .here))) | exact .there (.there (.there (.there (.there .here)))) | exact .there (.there (.there (.there (.there (.there .here))))) | exact .there (.there (.there (.there (.there (.there (.there .here))))))); (first | rfl | exact Arr.len _ | (simp; done)); (first | rfl | (intro u_ hu_; simp only [List.mem_cons, List.not_mem_nil, or_false] at hu_; rcases hu_ with rfl | hu_; rfl) | exact byt_cell1 _ | exact cells_one _ | exact wrd_one _ | exact flat_cell1 _); (first | rfl | exact Arr.len _ | (simp; done)); rfl; (intro w_ hq_; (try simp only [List.set_cons_zero, List.set_cons_succ] at hq_); clear HH; have HH := hid hq_; clear hq_))
        | ((with_reducible apply wpL_move); rfl; rfl)
        | ((with_reducible apply wpL_assign); rfl; rfl)
        | ((with_reducible apply wpL_pick); rfl; rfl; rfl)
        | ((with_reducible apply wpL_not); rfl; rfl)
        | ((with_reducible apply wpL_cmp (b := true)); rfl; rfl; rfl; (first | rfl | assumption | (simp only [cmpB, decide_eq_true_eq, decide_eq_false_iff_not, beq_iff_eq, bne_iff_ne, ne_eq, beq_eq_false_iff_ne, bne_eq_false_iff_eq, gt_iff_lt, ge_iff_le]; omega) | (simp; omega)); rfl)
        | ((with_reducible apply wpL_cmp (b := false)); rfl; rfl; rfl; (first | rfl | assumption | (simp only [cmpB, decide_eq_true_eq, decide_eq_false_iff_not, beq_iff_eq, bne_iff_ne, ne_eq, beq_eq_false_iff_ne, bne_eq_false_iff_eq, gt_iff_lt, ge_iff_le]; omega) | (simp; omega)); rfl)
        | ((with_reducible apply wpL_cmp); rfl; rfl; rfl; rfl; rfl)
        | ((with_reducible apply wpL_arith); rfl; rfl; rfl; (exact IntWalk.i64_in _ (by (try simp only [arithI]); omega)); rfl)); (try simp only [arithI, Act.put, Act.eval, List.setIfInBounds_toArray, List.set_cons_succ, List.set_cons_zero, Array.getD_eq_getD_getElem?, List.getElem?_toArray, List.getElem?_cons_succ, List.getElem?_cons_zero, Option.getD_some])))
  refine bodyPost_ret (res1 rfl (resC kA56 HH.out (by rfl) (.there .here) (Arr.len _))) rfl ?_
  exact ⟨rfl, HH.out.below⟩
set_option maxRecDepth 100000 in
set_option maxHeartbeats 2000000 in
theorem refHalf_any (w : World) (v : Value) (l : List UInt8) (hl : Byts w v l) (hn : l.length ≤ 900000) : Calls Try.prog 36 #[v] w (RetA w (halfA (sumB l))) := by
  obtain ⟨ao, cap, rfl, hc⟩ := hl.shape
  have HL := hid hl
  clear hl
  have HH := hid (Holds.init w)
  generalize hd : sumB l = d
  have HD := hid hd
  clear hd
  have HC := hid (halfA_cells d)
  go_enter Try.func36, Try.ntmps36
  go_wp2_with (first
    | ((first
        | ((with_reducible apply wpL_skip); rfl; skip)
        | (go_at_call 22; (with_reducible refine (sumR_any _ _ l (HH.out.sl HL.out) (by omega)).mono ?_); rw [HD.out]; rintro e_ w2_ ⟨rfl, hb_⟩; (have hq_ := HH.out.grow hb_); clear HH; have HH := hid hq_; clear hq_ hb_)
        | ((with_reducible apply wpL_storeC (t := 24) (vs := d.cells)); rfl; rfl; (exact kS24); (exact HH.out); (exact .here); (exact Arr.len _); (exact cells_one _); (exact Arr.len _); rfl; (intro w_ hq_; clear HH; have HH := hid hq_; clear hq_))
        | ((with_reducible apply wpL_nilCheck); rfl; rfl)
        | ((with_reducible apply wpL_loadArr (t := 33) kA33 HH.out); rfl; (first | exact .here | exact .there .here | exact .there (.there .here) | exact .there (.there (.there .here)) | exact .there (.there (.there (.there .here))) | exact .there (.there (.there (.there (.there .here)))) | exact .there (.there (.there (.there (.there (.there .here))))) | exact .there (.there (.there (.there (.there (.there (.there .here))))))); rfl)
        | ((with_reducible apply wpL_loadC (t := 33) kA33 HH.out); rfl; (first | exact .here | exact .there .here | exact .there (.there .here) | exact .there (.there (.there .here)) | exact .there (.there (.there (.there .here))) | exact .there (.there (.there (.there (.there .here)))) | exact .there (.there (.there (.there (.there (.there .here))))) | exact .there (.there (.there (.there (.there (.there (.there .here))))))); (first | rfl | exact Arr.len _ | (simp; done)); rfl)
        | ((with_reducible apply wpL_allocC (dst := some 2) kZ33 HH.out); rfl; (intro g2_ w_ hq_; (try simp only [List.set_cons_zero, List.set_cons_succ] at hq_); clear HH; have HH := hid hq_; clear hq_))
        | ((with_reducible apply wpL_allocC (dst := some 3) kZ24 HH.out); rfl; (intro g3_ w_ hq_; (try simp only [List.set_cons_zero, List.set_cons_succ] at hq_); clear HH; have HH := hid hq_; clear hq_))
        | ((with_reducible apply wpL_allocC (dst := some 4) kZ33 HH.out); rfl; (intro g4_ w_ hq_; (try simp only [List.set_cons_zero, List.set_cons_succ] at hq_); clear HH; have HH := hid hq_; clear hq_))
        | ((with_reducible apply wpL_storeArr (t := 24) kS24 HH.out); rfl; rfl; (first | exact .here | exact .there .here | exact .there (.there .here) | exact .there (.there (.there .here)) | exact .there (.there (.there (.there .here))) | exact .there (.there (.there (.there (.there .here)))) | exact .there (.there (.there (.there (.there (.there .here))))) | exact .there (.there (.there (.there (.there (.there (.there .here))))))); (first | rfl | exact Arr.len _ | (simp; done)); rfl; (intro w_ hq_; (try simp only [List.set_cons_zero, List.set_cons_succ] at hq_); clear HH; have HH := hid hq_; clear hq_))
        | ((with_reducible apply wpL_storeC (t := 24)); rfl; rfl; (exact kS24); (exact HH.out); (first | exact .here | exact .there .here | exact .there (.there .here) | exact .there (.there (.there .here)) | exact .there (.there (.there (.there .here))) | exact .there (.there (.there (.there (.there .here)))) | exact .there (.there (.there (.there (.there (.there .here))))) | exact .there (.there (.there (.there (.there (.there (.there .here))))))); (first | rfl | exact Arr.len _ | (simp; done)); (first | rfl | (intro u_ hu_; simp only [List.mem_cons, List.not_mem_nil, or_false] at hu_; rcases hu_ with rfl | hu_; rfl) | exact byt_cell1 _ | exact cells_one _ | exact wrd_one _ | exact flat_cell1 _); (first | rfl | exact Arr.len _ | (simp; done)); rfl; (intro w_ hq_; (try simp only [List.set_cons_zero, List.set_cons_succ] at hq_); clear HH; have HH := hid hq_; clear hq_))
        | ((with_reducible apply wpL_storeArr (t := 33) kS33 HH.out); rfl; rfl; (first | exact .here | exact .there .here | exact .there (.there .here) | exact .there (.there (.there .here)) | exact .there (.there (.there (.there .here))) | exact .there (.there (.there (.there (.there .here)))) | exact .there (.there (.there (.there (.there (.there .here))))) | exact .there (.there (.there (.there (.there (.there (.there .here))))))); (first | rfl | exact Arr.len _ | (simp; done)); rfl; (intro w_ hq_; (try simp only [List.set_cons_zero, List.set_cons_succ] at hq_); clear HH; have HH := hid hq_; clear hq_))
        | ((with_reducible apply wpL_storeC (t := 33)); rfl; rfl; (exact kS33); (exact HH.out); (first | exact .here | exact .there .here | exact .there (.there .here) | exact .there (.there (.there .here)) | exact .there (.there (.there (.there .here))) | exact .there (.there (.there (.there (.there .here)))) | exact .there (.there (.there (.there (.there (.there .here))))) | exact .there (.there (.there (.there (.there (.there (.there .here))))))); (first | rfl | exact Arr.len _ | (simp; done)); (first | rfl | (intro u_ hu_; simp only [List.mem_cons, List.not_mem_nil, or_false] at hu_; rcases hu_ with rfl | hu_; rfl) | exact byt_cell1 _ | exact cells_one _ | exact wrd_one _ | exact flat_cell1 _); (first | rfl | exact Arr.len _ | (simp; done)); rfl; (intro w_ hq_; (try simp only [List.set_cons_zero, List.set_cons_succ] at hq_); clear HH; have HH := hid hq_; clear hq_))
        | ((with_reducible apply wpL_move); rfl; rfl)
        | ((with_reducible apply wpL_assign); rfl; rfl)
        | ((with_reducible apply wpL_pick); rfl; rfl; rfl)
        | ((with_reducible apply wpL_not); rfl; rfl)
        | ((with_reducible apply wpL_cmp (b := true)); rfl; rfl; rfl; (first | rfl | assumption | (simp only [cmpB, decide_eq_true_eq, decide_eq_false_iff_not, beq_iff_eq, bne_iff_ne, ne_eq, beq_eq_false_iff_ne, bne_eq_false_iff_eq, gt_iff_lt, ge_iff_le]; omega) | (simp; omega)); rfl)
        | ((with_reducible apply wpL_cmp (b := false)); rfl; rfl; rfl; (first | rfl | assumption | (simp only [cmpB, decide_eq_true_eq, decide_eq_false_iff_not, beq_iff_eq, bne_iff_ne, ne_eq, beq_eq_false_iff_ne, bne_eq_false_iff_eq, gt_iff_lt, ge_iff_le]; omega) | (simp; omega)); rfl)
        | ((with_reducible apply wpL_cmp); rfl; rfl; rfl; rfl; rfl)
        | ((with_reducible apply wpL_arith); rfl; rfl; rfl; (exact IntWalk.i64_in _ (by (try simp only [arithI]); omega)); rfl)); (try simp only [arithI, Act.put, Act.eval, List.setIfInBounds_toArray, List.set_cons_succ, List.set_cons_zero, Array.getD_eq_getD_getElem?, List.getElem?_toArray, List.getElem?_cons_succ, List.getElem?_cons_zero, Option.getD_some])))
  refine wp_region_tailQ 2 (by kernel_rfl) (by kernel_rfl) (by kernel_rfl) HH.out ?_
  simp only [List.take_succ_cons, List.take_zero, List.drop_succ_cons, List.drop_zero]
  repeat ((first
    | ((with_reducible apply wpQ_skip); rfl; skip)
    | ((with_reducible apply wpQ_sliceArr Try.underlying33 kS5); rfl; rfl)
    | ((with_reducible apply wpQ_sliceArrTo (m := 16) Try.underlying24 kS5); rfl; rfl; rfl; (exact (by omega)); rfl)
    | ((with_reducible apply wpQ_nilCheck); rfl; rfl)
    | ((with_reducible apply wpQ_loadArr (t := 33) kA33); rfl; (first | exact .here | exact .there .here | exact .there (.there .here) | exact .there (.there (.there .here)) | exact .there (.there (.there (.there .here))) | exact .there (.there (.there (.there (.there .here)))) | exact .there (.there (.there (.there (.there (.there .here))))) | exact .there (.there (.there (.there (.there (.there (.there .here))))))); rfl)
    | ((with_reducible apply wpQ_loadC (t := 33) kA33); rfl; (first | exact .here | exact .there .here | exact .there (.there .here) | exact .there (.there (.there .here)) | exact .there (.there (.there (.there .here))) | exact .there (.there (.there (.there (.there .here)))) | exact .there (.there (.there (.there (.there (.there .here))))) | exact .there (.there (.there (.there (.there (.there (.there .here))))))); (first | rfl | exact Arr.len _ | (simp; done)); rfl)
    | ((with_reducible apply wpQ_move); rfl; rfl)
    | ((with_reducible apply wpQ_assign); rfl; rfl)
    | ((with_reducible apply wpQ_pick); rfl; rfl; rfl)
    | ((with_reducible apply wpQ_not); rfl; rfl)
    | ((with_reducible apply wpQ_cmp (b := true)); rfl; rfl; rfl; (first | rfl | assumption | (simp only [cmpB, decide_eq_true_eq, decide_eq_false_iff_not, beq_iff_eq, bne_iff_ne, ne_eq, beq_eq_false_iff_ne, bne_eq_false_iff_eq, gt_iff_lt, ge_iff_le]; omega) | (simp; omega)); rfl)
    | ((with_reducible apply wpQ_cmp (b := false)); rfl; rfl; rfl; (first | rfl | assumption | (simp only [cmpB, decide_eq_true_eq, decide_eq_false_iff_not, beq_iff_eq, bne_iff_ne, ne_eq, beq_eq_false_iff_ne, bne_eq_false_iff_eq, gt_iff_lt, ge_iff_le]; omega) | (simp; omega)); rfl)
    | ((with_reducible apply wpQ_cmp); rfl; rfl; rfl; rfl; rfl)
    | ((with_reducible apply wpQ_arith); rfl; rfl; rfl; (exact IntWalk.i64_in _ (by (try simp only [arithI]); omega)); rfl)); (try simp only [if_true, if_false, Bool.false_eq_true, arithI, Act.put, Act.eval, List.setIfInBounds_toArray, List.set_cons_succ, List.set_cons_zero, Array.getD_eq_getD_getElem?, List.getElem?_toArray, List.getElem?_cons_succ, List.getElem?_cons_zero, Option.getD_some]))
  refine wpQuiet_nil ?_
  intro wq hq_
  have HQ := hid hq_
  clear hq_
  clear HH
  have HH := HQ
  clear HQ
  go_wp2_with (first
    | ((first
        | ((with_reducible apply wpL_skip); rfl; skip)
        | ((with_reducible apply wpL_copyOwn (news := (halfA d).cells) (cs := (Arr.zero 16).cells) Try.underlying22 kS5); rfl; rfl; (exact HH.out); (intro j_ v_ hv_; exact Byts.cellB (Byts.ofArr (x := d) HH.out (.there .here) (m := 16) (cap := 32) (by omega) (by omega)) j_ v_ hv_); (exact Arr.len _); (exact .here); (exact Nat.le_of_eq ((Arr.len _).trans (Arr.len _).symm)); (exact cells_one _); rfl; (intro w_ hq_; rw [show (halfA d).cells ++ (Arr.zero 16).cells.drop (halfA d).cells.length = (halfA d).cells from by rw [List.drop_eq_nil_of_le (by rw [Arr.len, Arr.len]; exact Nat.le_refl _), List.append_nil]] at hq_; clear HH; have HH := hid hq_; clear hq_))
        | ((with_reducible apply wpL_storeC (t := 33) (vs := (halfA d).cells)); rfl; rfl; (exact kS33); (exact HH.out); (exact .there (.there .here)); (exact Arr.len _); (exact cells_one _); (exact Arr.len _); rfl; (intro w_ hq_; clear HH; have HH := hid hq_; clear hq_))
        | ((with_reducible apply wpL_nilCheck); rfl; rfl)
        | ((with_reducible apply wpL_loadArr (t := 33) kA33 HH.out); rfl; (first | exact .here | exact .there .here | exact .there (.there .here) | exact .there (.there (.there .here)) | exact .there (.there (.there (.there .here))) | exact .there (.there (.there (.there (.there .here)))) | exact .there (.there (.there (.there (.there (.there .here))))) | exact .there (.there (.there (.there (.there (.there (.there .here))))))); rfl)
        | ((with_reducible apply wpL_loadC (t := 33) kA33 HH.out); rfl; (first | exact .here | exact .there .here | exact .there (.there .here) | exact .there (.there (.there .here)) | exact .there (.there (.there (.there .here))) | exact .there (.there (.there (.there (.there .here)))) | exact .there (.there (.there (.there (.there (.there .here))))) | exact .there (.there (.there (.there (.there (.there (.there .here))))))); (first | rfl | exact Arr.len _ | (simp; done)); rfl)
        | ((with_reducible apply wpL_allocC (dst := some 2) kZ33 HH.out); rfl; (intro g2_ w_ hq_; (try simp only [List.set_cons_zero, List.set_cons_succ] at hq_); clear HH; have HH := hid hq_; clear hq_))
        | ((with_reducible apply wpL_allocC (dst := some 3) kZ24 HH.out); rfl; (intro g3_ w_ hq_; (try simp only [List.set_cons_zero, List.set_cons_succ] at hq_); clear HH; have HH := hid hq_; clear hq_))
        | ((with_reducible apply wpL_allocC (dst := some 4) kZ33 HH.out); rfl; (intro g4_ w_ hq_; (try simp only [List.set_cons_zero, List.set_cons_succ] at hq_); clear HH; have HH := hid hq_; clear hq_))
        | ((with_reducible apply wpL_storeArr (t := 24) kS24 HH.out); rfl; rfl; (first | exact .here | exact .there .here | exact .there (.there .here) | exact .there (.there (.there .here)) | exact .there (.there (.there (.there .here))) | exact .there (.there (.there (.there (.there .here)))) | exact .there (.there (.there (.there (.there (.there .here))))) | exact .there (.there (.there (.there (.there (.there (.there .here))))))); (first | rfl | exact Arr.len _ | (simp; done)); rfl; (intro w_ hq_; (try simp only [List.set_cons_zero, List.set_cons_succ] at hq_); clear HH; have HH := hid hq_; clear hq_))
        | ((with_reducible apply wpL_storeC (t := 24)); rfl; rfl; (exact kS24); (exact HH.out); (first | exact .here | exact .there .here | exact .there (.there .here) | exact .there (.there (.there .here)) | exact .there (.there (.there (.there .here))) | exact .there (.there (.there (.there (.there .here)))) | exact .there (.there (.there (.there (.there (.there .here))))) | exact .there (.there (.there (.there (.there (.there (.there .here))))))); (first | rfl | exact Arr.len _ | (simp; done)); (first | rfl | (intro u_ hu_; simp only [List.mem_cons, List.not_mem_nil, or_false] at hu_; rcases hu_ with rfl | hu_; rfl) | exact byt_cell1 _ | exact cells_one _ | exact wrd_one _ | exact flat_cell1 _); (first | rfl | exact Arr.len _ | (simp; done)); rfl; (intro w_ hq_; (try simp only [List.set_cons_zero, List.set_cons_succ] at hq_); clear HH; have HH := hid hq_; clear hq_))
        | ((with_reducible apply wpL_storeArr (t := 33) kS33 HH.out); rfl; rfl; (first | exact .here | exact .there .here | exact .there (.there .here) | exact .there (.there (.there .here)) | exact .there (.there (.there (.there .here))) | exact .there (.there (.there (.there (.there .here)))) | exact .there (.there (.there (.there (.there (.there .here))))) | exact .there (.there (.there (.there (.there (.there (.there .here))))))); (first | rfl | exact Arr.len _ | (simp; done)); rfl; (intro w_ hq_; (try simp only [List.set_cons_zero, List.set_cons_succ] at hq_); clear HH; have HH := hid hq_; clear hq_))
        | ((with_reducible apply wpL_storeC (t := 33)); rfl; rfl; (exact kS33); (exact HH.out); (first | exact .here | exact .there .here | exact .there (.there .here) | exact .there (.there (.there .here)) | exact .there (.there (.there (.there .here))) | exact .there (.there (.there (.there (.there .here)))) | exact .there (.there (.there (.there (.there (.there .here))))) | exact .there (.there (.there (.there (.there (.there (.there .here))))))); (first | rfl | exact Arr.len _ | (simp; done)); (first | rfl | (intro u_ hu_; simp only [List.mem_cons, List.not_mem_nil, or_false] at hu_; rcases hu_ with rfl | hu_; rfl) | exact byt_cell1 _ | exact cells_one _ | exact wrd_one _ | exact flat_cell1 _); (first | rfl | exact Arr.len _ | (simp; done)); rfl; (intro w_ hq_; (try simp only [List.set_cons_zero, List.set_cons_succ] at hq_); clear HH; have HH := hid hq_; clear hq_))
        | ((with_reducible apply wpL_move); rfl; rfl)
        | ((with_reducible apply wpL_assign); rfl; rfl)
        | ((with_reducible apply wpL_pick); rfl; rfl; rfl)
        | ((with_reducible apply wpL_not); rfl; rfl)
        | ((with_reducible apply wpL_cmp (b := true)); rfl; rfl; rfl; (first | rfl | assumption | (simp only [cmpB, decide_eq_true_eq, decide_eq_false_iff_not, beq_iff_eq, bne_iff_ne, ne_eq, beq_eq_false_iff_ne, bne_eq_false_iff_eq, gt_iff_lt, ge_iff_le]; omega) | (simp; omega)); rfl)
        | ((with_reducible apply wpL_cmp (b := false)); rfl; rfl; rfl; (first | rfl | assumption | (simp only [cmpB, decide_eq_true_eq, decide_eq_false_iff_not, beq_iff_eq, bne_iff_ne, ne_eq, beq_eq_false_iff_ne, bne_eq_false_iff_eq, gt_iff_lt, ge_iff_le]; omega) | (simp; omega)); rfl)
        | ((with_reducible apply wpL_cmp); rfl; rfl; rfl; rfl; rfl)
        | ((with_reducible apply wpL_arith); rfl; rfl; rfl; (exact IntWalk.i64_in _ (by (try simp only [arithI]); omega)); rfl)); (try simp only [arithI, Act.put, Act.eval, List.setIfInBounds_toArray, List.set_cons_succ, List.set_cons_zero, Array.getD_eq_getD_getElem?, List.getElem?_toArray, List.getElem?_cons_succ, List.getElem?_cons_zero, Option.getD_some])))
  refine bodyPost_ret (res1 rfl (resC kA33 HH.out (by rfl) (.there (.there .here)) (Arr.len _))) rfl ?_
  exact ⟨rfl, HH.out.below⟩
end Go.Proofs.Ytgkfopodhikckaa
/- The laws Sha256Sum and Sha256Half: they return true. Condition: a slice of at most 2^47 bytes. -/
namespace Go.Proofs.Ytgkfopodhikckaa
open Go.RowKit
theorem bya (l : List UInt8) : (l == l) = true := beq_self_eq_true _
theorem arrRefl {n : Nat} (x : Arr n) : (x == x) = true := beq_self_eq_true _
set_option maxRecDepth 100000 in
set_option maxHeartbeats 2000000 in
theorem law_sum (w : World) (v : Value) (l : List UInt8) (hl : Byts w v l) : Calls Try.prog 3 #[v] w (RetB w true) := by
  obtain ⟨ao, cap, rfl, hc⟩ := hl.shape
  have HL := hid hl
  have HN := hid (show (cutB l).length ≤ 900000 from by have := cutB_len l; omega)
  clear hl
  have HH := hid (Holds.init w)
  go_enter Try.func3, Try.ntmps3
  go_wp2_with (first
    | ((first
        | ((with_reducible apply wpL_skip); rfl; skip)
        | (go_at_call 19; (first | ((have hcall_ := hid (cut_any _ _ _ l HL.out)); (with_reducible refine hcall_.out.mono ?_); clear hcall_) | (with_reducible refine (cut_any _ _ _ l HL.out).mono ?_)); rintro e_ w2_ ⟨ao1, cap1, rfl, hc1_, hb_⟩; (have hq_ := HH.out.grow hb_; have HC := hid hc1_; clear hc1_); clear HH; have HH := hid hq_; clear hq_)
        | ((with_reducible apply wpL_toStr Try.underlying22 Try.underlying5 Try.underlying9 (HH.out.sl HC.out)); rfl; rfl)
        | (go_at_call 20; (first | ((have hcall_ := hid (shaSum_any _ _ (cutB l) (HH.out.sl HC.out) HN.out)); (with_reducible refine hcall_.out.mono ?_); clear hcall_) | (with_reducible refine (shaSum_any _ _ (cutB l) (HH.out.sl HC.out) HN.out).mono ?_)); rintro e_ w2_ ⟨rfl, hb_⟩; (have hq_ := HH.out.grow hb_); clear HH; have HH := hid hq_; clear hq_ hb_)
        | ((with_reducible apply wpL_nilCheck); rfl; rfl)
        | ((with_reducible apply wpL_loadArr (t := 25) kA25 HH.out); rfl; (first | exact .here | exact .there .here | exact .there (.there .here) | exact .there (.there (.there .here)) | exact .there (.there (.there (.there .here))) | exact .there (.there (.there (.there (.there .here)))) | exact .there (.there (.there (.there (.there (.there .here))))) | exact .there (.there (.there (.there (.there (.there (.there .here))))))); rfl)
        | ((with_reducible apply wpL_loadC (t := 25) kA25 HH.out); rfl; (first | exact .here | exact .there .here | exact .there (.there .here) | exact .there (.there (.there .here)) | exact .there (.there (.there (.there .here))) | exact .there (.there (.there (.there (.there .here)))) | exact .there (.there (.there (.there (.there (.there .here))))) | exact .there (.there (.there (.there (.there (.there (.there .here))))))); (first | rfl | exact Arr.len _ | (simp; done)); rfl)
        | ((with_reducible apply wpL_allocC (dst := some 4) kZ25 HH.out); rfl; (intro g4_ w_ hq_; (try simp only [List.set_cons_zero, List.set_cons_succ] at hq_); clear HH; have HH := hid hq_; clear hq_))
        | ((with_reducible apply wpL_storeArr (t := 25) kS25 HH.out); rfl; rfl; (first | exact .here | exact .there .here | exact .there (.there .here) | exact .there (.there (.there .here)) | exact .there (.there (.there (.there .here))) | exact .there (.there (.there (.there (.there .here)))) | exact .there (.there (.there (.there (.there (.there .here))))) | exact .there (.there (.there (.there (.there (.there (.there .here))))))); (first | rfl | exact Arr.len _ | (simp; done)); rfl; (intro w_ hq_; (try simp only [List.set_cons_zero, List.set_cons_succ] at hq_); clear HH; have HH := hid hq_; clear hq_))
        | ((with_reducible apply wpL_storeC (t := 25)); rfl; rfl; (exact kS25); (exact HH.out); (first | exact .here | exact .there .here | exact .there (.there .here) | exact .there (.there (.there .here)) | exact .there (.there (.there (.there .here))) | exact .there (.there (.there (.there (.there .here)))) | exact .there (.there (.there (.there (.there (.there .here))))) | exact .there (.there (.there (.there (.there (.there (.there .here))))))); (first | rfl | exact Arr.len _ | (simp; done)); (first | rfl | (intro u_ hu_; simp only [List.mem_cons, List.not_mem_nil, or_false] at hu_; rcases hu_ with rfl | hu_; rfl) | exact byt_cell1 _ | exact cells_one _ | exact wrd_one _ | exact flat_cell1 _); (first | rfl | exact Arr.len _ | (simp; done)); rfl; (intro w_ hq_; (try simp only [List.set_cons_zero, List.set_cons_succ] at hq_); clear HH; have HH := hid hq_; clear hq_))
        | ((with_reducible apply wpL_move); rfl; rfl)
        | ((with_reducible apply wpL_assign); rfl; rfl)
        | ((with_reducible apply wpL_pick); rfl; rfl; rfl)
        | ((with_reducible apply wpL_not); rfl; rfl)
        | ((with_reducible apply wpL_cmp (b := true)); rfl; rfl; rfl; (first | rfl | assumption | (simp only [cmpB, decide_eq_true_eq, decide_eq_false_iff_not, beq_iff_eq, bne_iff_ne, ne_eq, beq_eq_false_iff_ne, bne_eq_false_iff_eq, gt_iff_lt, ge_iff_le]; omega) | (simp; omega)); rfl)
        | ((with_reducible apply wpL_cmp (b := false)); rfl; rfl; rfl; (first | rfl | assumption | (simp only [cmpB, decide_eq_true_eq, decide_eq_false_iff_not, beq_iff_eq, bne_iff_ne, ne_eq, beq_eq_false_iff_ne, bne_eq_false_iff_eq, gt_iff_lt, ge_iff_le]; omega) | (simp; omega)); rfl)
        | ((with_reducible apply wpL_cmp); rfl; rfl; rfl; rfl; rfl)
        | ((with_reducible apply wpL_arith); rfl; rfl; rfl; (exact IntWalk.i64_in _ (by (try simp only [arithI]); omega)); rfl)); (try simp only [arithI, Act.put, Act.eval, List.setIfInBounds_toArray, List.set_cons_succ, List.set_cons_zero, Array.getD_eq_getD_getElem?, List.getElem?_toArray, List.getElem?_cons_succ, List.getElem?_cons_zero, Option.getD_some])))
  refine wp_region_holds (by kernel_rfl) (by kernel_rfl) HH.out ?_
  repeat ((first
    | ((with_reducible apply wpQ_skip); rfl; skip)
    | ((with_reducible apply wpQ_call (v := .bool true) (args := #[]) kB21); rfl; (intro wq hwq; exact (known_any wq).mono fun e w' ⟨he, hb⟩ => ⟨he, hwq.grow hb⟩); rfl)
    | ((with_reducible apply wpQ_call (v := (sumB (cutB l)).val) (args := #[.slice ao1 (cutB l).length cap1]) kB22); rfl; (intro wq hwq; exact (sumR_any wq _ (cutB l) (hwq.sl HC.out) (by have := HN.out; omega)).mono fun e w' ⟨he, hb⟩ => ⟨he, hwq.grow hb⟩); rfl)
    | ((with_reducible apply wpQ_eqlA (b := true) (p := sumB (cutB l)) (q := sumB (cutB l)) kR24); rfl; rfl; (exact arrRefl _); rfl)
    | ((with_reducible apply wpQ_toStr (l := cutB l) Try.underlying22 Try.underlying5 Try.underlying9 (fun w1 h1 => Holds.sl h1 HC.out)); rfl; rfl)
    | ((with_reducible apply wpQ_eqlStr (b := true) Try.underlying9); rfl; rfl; (exact bya _); rfl)
    | ((with_reducible apply wpQ_nilCheck); rfl; rfl)
    | ((with_reducible apply wpQ_loadArr (t := 25) kA25); rfl; (first | exact .here | exact .there .here | exact .there (.there .here) | exact .there (.there (.there .here)) | exact .there (.there (.there (.there .here))) | exact .there (.there (.there (.there (.there .here)))) | exact .there (.there (.there (.there (.there (.there .here))))) | exact .there (.there (.there (.there (.there (.there (.there .here))))))); rfl)
    | ((with_reducible apply wpQ_loadC (t := 25) kA25); rfl; (first | exact .here | exact .there .here | exact .there (.there .here) | exact .there (.there (.there .here)) | exact .there (.there (.there (.there .here))) | exact .there (.there (.there (.there (.there .here)))) | exact .there (.there (.there (.there (.there (.there .here))))) | exact .there (.there (.there (.there (.there (.there (.there .here))))))); (first | rfl | exact Arr.len _ | (simp; done)); rfl)
    | ((with_reducible apply wpQ_move); rfl; rfl)
    | ((with_reducible apply wpQ_assign); rfl; rfl)
    | ((with_reducible apply wpQ_pick); rfl; rfl; rfl)
    | ((with_reducible apply wpQ_not); rfl; rfl)
    | ((with_reducible apply wpQ_cmp (b := true)); rfl; rfl; rfl; (first | rfl | assumption | (simp only [cmpB, decide_eq_true_eq, decide_eq_false_iff_not, beq_iff_eq, bne_iff_ne, ne_eq, beq_eq_false_iff_ne, bne_eq_false_iff_eq, gt_iff_lt, ge_iff_le]; omega) | (simp; omega)); rfl)
    | ((with_reducible apply wpQ_cmp (b := false)); rfl; rfl; rfl; (first | rfl | assumption | (simp only [cmpB, decide_eq_true_eq, decide_eq_false_iff_not, beq_iff_eq, bne_iff_ne, ne_eq, beq_eq_false_iff_ne, bne_eq_false_iff_eq, gt_iff_lt, ge_iff_le]; omega) | (simp; omega)); rfl)
    | ((with_reducible apply wpQ_cmp); rfl; rfl; rfl; rfl; rfl)
    | ((with_reducible apply wpQ_arith); rfl; rfl; rfl; (exact IntWalk.i64_in _ (by (try simp only [arithI]); omega)); rfl)); (try simp only [if_true, if_false, Bool.false_eq_true, arithI, Act.put, Act.eval, List.setIfInBounds_toArray, List.set_cons_succ, List.set_cons_zero, Array.getD_eq_getD_getElem?, List.getElem?_toArray, List.getElem?_cons_succ, List.getElem?_cons_zero, Option.getD_some]))
  refine wpQuiet_nil ?_
  intro wq hq_
  have HQ := hid hq_
  clear hq_
  go_wp2
  go_ret
  exact RetB.mk rfl HQ.out.below
set_option maxRecDepth 100000 in
set_option maxHeartbeats 2000000 in
theorem law_half (w : World) (v : Value) (l : List UInt8) (hl : Byts w v l) : Calls Try.prog 6 #[v] w (RetB w true) := by
  obtain ⟨ao, cap, rfl, hc⟩ := hl.shape
  have HL := hid hl
  have HN := hid (show (cutB l).length ≤ 900000 from by have := cutB_len l; omega)
  clear hl
  have HH := hid (Holds.init w)
  go_enter Try.func6, Try.ntmps6
  go_wp2_with (first
    | ((first
        | ((with_reducible apply wpL_skip); rfl; skip)
        | (go_at_call 19; (first | ((have hcall_ := hid (cut_any _ _ _ l HL.out)); (with_reducible refine hcall_.out.mono ?_); clear hcall_) | (with_reducible refine (cut_any _ _ _ l HL.out).mono ?_)); rintro e_ w2_ ⟨ao1, cap1, rfl, hc1_, hb_⟩; (have hq_ := HH.out.grow hb_; have HC := hid hc1_; clear hc1_); clear HH; have HH := hid hq_; clear hq_)
        | (go_at_call 20; (first | ((have hcall_ := hid (shaSum_any _ _ (cutB l) (HH.out.sl HC.out) HN.out)); (with_reducible refine hcall_.out.mono ?_); clear hcall_) | (with_reducible refine (shaSum_any _ _ (cutB l) (HH.out.sl HC.out) HN.out).mono ?_)); rintro e_ w2_ ⟨rfl, hb_⟩; (have hq_ := HH.out.grow hb_); clear HH; have HH := hid hq_; clear hq_ hb_)
        | (go_at_call 35; (first | ((have hcall_ := hid (sumHalf_any _ _ (cutB l) (HH.out.sl HC.out) HN.out)); (with_reducible refine hcall_.out.mono ?_); clear hcall_) | (with_reducible refine (sumHalf_any _ _ (cutB l) (HH.out.sl HC.out) HN.out).mono ?_)); rintro e_ w2_ ⟨rfl, hb_⟩; (have hq_ := HH.out.grow hb_); clear HH; have HH := hid hq_; clear hq_ hb_)
        | ((with_reducible apply wpL_nilCheck); rfl; rfl)
        | ((with_reducible apply wpL_loadArr (t := 56) kA56 HH.out); rfl; (first | exact .here | exact .there .here | exact .there (.there .here) | exact .there (.there (.there .here)) | exact .there (.there (.there (.there .here))) | exact .there (.there (.there (.there (.there .here)))) | exact .there (.there (.there (.there (.there (.there .here))))) | exact .there (.there (.there (.there (.there (.there (.there .here))))))); rfl)
        | ((with_reducible apply wpL_loadC (t := 56) kA56 HH.out); rfl; (first | exact .here | exact .there .here | exact .there (.there .here) | exact .there (.there (.there .here)) | exact .there (.there (.there (.there .here))) | exact .there (.there (.there (.there (.there .here)))) | exact .there (.there (.there (.there (.there (.there .here))))) | exact .there (.there (.there (.there (.there (.there (.there .here))))))); (first | rfl | exact Arr.len _ | (simp; done)); rfl)
        | ((with_reducible apply wpL_allocC (dst := some 3) kZ25 HH.out); rfl; (intro g3_ w_ hq_; (try simp only [List.set_cons_zero, List.set_cons_succ] at hq_); clear HH; have HH := hid hq_; clear hq_))
        | ((with_reducible apply wpL_allocC (dst := some 4) kZ56 HH.out); rfl; (intro g4_ w_ hq_; (try simp only [List.set_cons_zero, List.set_cons_succ] at hq_); clear HH; have HH := hid hq_; clear hq_))
        | ((with_reducible apply wpL_storeArr (t := 25) kS25 HH.out); rfl; rfl; (first | exact .here | exact .there .here | exact .there (.there .here) | exact .there (.there (.there .here)) | exact .there (.there (.there (.there .here))) | exact .there (.there (.there (.there (.there .here)))) | exact .there (.there (.there (.there (.there (.there .here))))) | exact .there (.there (.there (.there (.there (.there (.there .here))))))); (first | rfl | exact Arr.len _ | (simp; done)); rfl; (intro w_ hq_; (try simp only [List.set_cons_zero, List.set_cons_succ] at hq_); clear HH; have HH := hid hq_; clear hq_))
        | ((with_reducible apply wpL_storeC (t := 25)); rfl; rfl; (exact kS25); (exact HH.out); (first | exact .here | exact .there .here | exact .there (.there .here) | exact .there (.there (.there .here)) | exact .there (.there (.there (.there .here))) | exact .there (.there (.there (.there (.there .here)))) | exact .there (.there (.there (.there (.there (.there .here))))) | exact .there (.there (.there (.there (.there (.there (.there .here))))))); (first | rfl | exact Arr.len _ | (simp; done)); (first | rfl | (intro u_ hu_; simp only [List.mem_cons, List.not_mem_nil, or_false] at hu_; rcases hu_ with rfl | hu_; rfl) | exact byt_cell1 _ | exact cells_one _ | exact wrd_one _ | exact flat_cell1 _); (first | rfl | exact Arr.len _ | (simp; done)); rfl; (intro w_ hq_; (try simp only [List.set_cons_zero, List.set_cons_succ] at hq_); clear HH; have HH := hid hq_; clear hq_))
        | ((with_reducible apply wpL_storeArr (t := 56) kS56 HH.out); rfl; rfl; (first | exact .here | exact .there .here | exact .there (.there .here) | exact .there (.there (.there .here)) | exact .there (.there (.there (.there .here))) | exact .there (.there (.there (.there (.there .here)))) | exact .there (.there (.there (.there (.there (.there .here))))) | exact .there (.there (.there (.there (.there (.there (.there .here))))))); (first | rfl | exact Arr.len _ | (simp; done)); rfl; (intro w_ hq_; (try simp only [List.set_cons_zero, List.set_cons_succ] at hq_); clear HH; have HH := hid hq_; clear hq_))
        | ((with_reducible apply wpL_storeC (t := 56)); rfl; rfl; (exact kS56); (exact HH.out); (first | exact .here | exact .there .here | exact .there (.there .here) | exact .there (.there (.there .here)) | exact .there (.there (.there (.there .here))) | exact .there (.there (.there (.there (.there .here)))) | exact .there (.there (.there (.there (.there (.there .here))))) | exact .there (.there (.there (.there (.there (.there (.there .here))))))); (first | rfl | exact Arr.len _ | (simp; done)); (first | rfl | (intro u_ hu_; simp only [List.mem_cons, List.not_mem_nil, or_false] at hu_; rcases hu_ with rfl | hu_; rfl) | exact byt_cell1 _ | exact cells_one _ | exact wrd_one _ | exact flat_cell1 _); (first | rfl | exact Arr.len _ | (simp; done)); rfl; (intro w_ hq_; (try simp only [List.set_cons_zero, List.set_cons_succ] at hq_); clear HH; have HH := hid hq_; clear hq_))
        | ((with_reducible apply wpL_move); rfl; rfl)
        | ((with_reducible apply wpL_assign); rfl; rfl)
        | ((with_reducible apply wpL_pick); rfl; rfl; rfl)
        | ((with_reducible apply wpL_not); rfl; rfl)
        | ((with_reducible apply wpL_cmp (b := true)); rfl; rfl; rfl; (first | rfl | assumption | (simp only [cmpB, decide_eq_true_eq, decide_eq_false_iff_not, beq_iff_eq, bne_iff_ne, ne_eq, beq_eq_false_iff_ne, bne_eq_false_iff_eq, gt_iff_lt, ge_iff_le]; omega) | (simp; omega)); rfl)
        | ((with_reducible apply wpL_cmp (b := false)); rfl; rfl; rfl; (first | rfl | assumption | (simp only [cmpB, decide_eq_true_eq, decide_eq_false_iff_not, beq_iff_eq, bne_iff_ne, ne_eq, beq_eq_false_iff_ne, bne_eq_false_iff_eq, gt_iff_lt, ge_iff_le]; omega) | (simp; omega)); rfl)
        | ((with_reducible apply wpL_cmp); rfl; rfl; rfl; rfl; rfl)
        | ((with_reducible apply wpL_arith); rfl; rfl; rfl; (exact IntWalk.i64_in _ (by (try simp only [arithI]); omega)); rfl)); (try simp only [arithI, Act.put, Act.eval, List.setIfInBounds_toArray, List.set_cons_succ, List.set_cons_zero, Array.getD_eq_getD_getElem?, List.getElem?_toArray, List.getElem?_cons_succ, List.getElem?_cons_zero, Option.getD_some])))
  refine wp_region_holds (by kernel_rfl) (by kernel_rfl) HH.out ?_
  repeat ((first
    | ((with_reducible apply wpQ_skip); rfl; skip)
    | ((with_reducible apply wpQ_call (v := .bool true) (args := #[]) kB21); rfl; (intro wq hwq; exact (known_any wq).mono fun e w' ⟨he, hb⟩ => ⟨he, hwq.grow hb⟩); rfl)
    | ((with_reducible apply wpQ_call (v := (halfA (sumB (cutB l))).val) (args := #[.slice ao1 (cutB l).length cap1]) kB36); rfl; (intro wq hwq; exact (refHalf_any wq _ (cutB l) (hwq.sl HC.out) HN.out).mono fun e w' ⟨he, hb⟩ => ⟨he, hwq.grow hb⟩); rfl)
    | ((with_reducible apply wpQ_sliceArr Try.underlying56 kS5); rfl; rfl)
    | ((with_reducible apply wpQ_sliceArrTo (m := 16) Try.underlying25 kS5); rfl; rfl; rfl; (exact (by omega)); rfl)
    | ((with_reducible apply wpQ_eqlA (b := true) (p := halfA (sumB (cutB l))) (q := halfA (sumB (cutB l))) kR33); rfl; rfl; (exact arrRefl _); rfl)
    | ((with_reducible apply wpQ_toStr (dst := some 14) (l := (halfA (sumB (cutB l))).1) Try.underlying22 Try.underlying5 Try.underlying9 (fun w1 h1 => Byts.ofArrAll (x := halfA (sumB (cutB l))) h1 .here)); rfl; rfl)
    | ((with_reducible apply wpQ_toStr (dst := some 16) (l := (halfA (sumB (cutB l))).1) Try.underlying22 Try.underlying5 Try.underlying9 (fun w1 h1 => Byts.ofArr (x := sumB (cutB l)) (m := 16) (cap := 32) h1 (.there .here) (by omega) (by omega))); rfl; rfl)
    | ((with_reducible apply wpQ_eqlStr (b := true) Try.underlying9); rfl; rfl; (exact bya _); rfl)
    | ((with_reducible apply wpQ_nilCheck); rfl; rfl)
    | ((with_reducible apply wpQ_loadArr (t := 56) kA56); rfl; (first | exact .here | exact .there .here | exact .there (.there .here) | exact .there (.there (.there .here)) | exact .there (.there (.there (.there .here))) | exact .there (.there (.there (.there (.there .here)))) | exact .there (.there (.there (.there (.there (.there .here))))) | exact .there (.there (.there (.there (.there (.there (.there .here))))))); rfl)
    | ((with_reducible apply wpQ_loadC (t := 56) kA56); rfl; (first | exact .here | exact .there .here | exact .there (.there .here) | exact .there (.there (.there .here)) | exact .there (.there (.there (.there .here))) | exact .there (.there (.there (.there (.there .here)))) | exact .there (.there (.there (.there (.there (.there .here))))) | exact .there (.there (.there (.there (.there (.there (.there .here))))))); (first | rfl | exact Arr.len _ | (simp; done)); rfl)
    | ((with_reducible apply wpQ_move); rfl; rfl)
    | ((with_reducible apply wpQ_assign); rfl; rfl)
    | ((with_reducible apply wpQ_pick); rfl; rfl; rfl)
    | ((with_reducible apply wpQ_not); rfl; rfl)
    | ((with_reducible apply wpQ_cmp (b := true)); rfl; rfl; rfl; (first | rfl | assumption | (simp only [cmpB, decide_eq_true_eq, decide_eq_false_iff_not, beq_iff_eq, bne_iff_ne, ne_eq, beq_eq_false_iff_ne, bne_eq_false_iff_eq, gt_iff_lt, ge_iff_le]; omega) | (simp; omega)); rfl)
    | ((with_reducible apply wpQ_cmp (b := false)); rfl; rfl; rfl; (first | rfl | assumption | (simp only [cmpB, decide_eq_true_eq, decide_eq_false_iff_not, beq_iff_eq, bne_iff_ne, ne_eq, beq_eq_false_iff_ne, bne_eq_false_iff_eq, gt_iff_lt, ge_iff_le]; omega) | (simp; omega)); rfl)
    | ((with_reducible apply wpQ_cmp); rfl; rfl; rfl; rfl; rfl)
    | ((with_reducible apply wpQ_arith); rfl; rfl; rfl; (exact IntWalk.i64_in _ (by (try simp only [arithI]); omega)); rfl)); (try simp only [if_true, if_false, Bool.false_eq_true, arithI, Act.put, Act.eval, List.setIfInBounds_toArray, List.set_cons_succ, List.set_cons_zero, Array.getD_eq_getD_getElem?, List.getElem?_toArray, List.getElem?_cons_succ, List.getElem?_cons_zero, Option.getD_some]))
  refine wpQuiet_nil ?_
  intro wq hq_
  have HQ := hid hq_
  clear hq_
  go_wp2
  go_ret
  exact RetB.mk rfl HQ.out.below
end Go.Proofs.Ytgkfopodhikckaa
/- A Hash of the call's own, told by the bytes that were written to it; a nil Hash. Condition: at most nine hundred thousand bytes. -/
namespace Go.Proofs.Ytgkfopodhikckaa
open Go.RowKit
/-- Block g is a Hash to which the bytes l were written. -/
def HashAt (bs : List (Nat × Obj)) (g : Nat) (l : List UInt8) : Prop :=
  ∃ rv ex, (g, objC (hcells (absorb initS l).1 rv l.length) 118) ∈ bs ∧ RestEx ex rv (absorb initS l).2 ∧ ∀ p ∈ ex, p ∈ bs ∧ ∃ cur, p.2 = .cells cur 5
theorem RestEx.only {ex : List (Nat × Obj)} {v : Value} {l : List UInt8} (h : RestEx ex v l) : ∃ ex', RestEx ex' v l ∧ ∀ p ∈ ex', p ∈ ex ∧ ∃ cur, p.2 = .cells cur 5 := by
  classical
  obtain ⟨ao, cap, rfl, hc, hcell⟩ := h
  refine ⟨ex.filter fun p => decide (∃ cur, p.2 = .cells cur 5), ⟨ao, cap, rfl, hc, fun j u hu => ?_⟩, fun p hp => ?_⟩
  · obtain ⟨g, cur, off, rfl, hm, hu'⟩ := hcell j u hu
    exact ⟨g, cur, off, rfl, List.mem_filter.2 ⟨hm, by simp⟩, hu'⟩
  · have := List.mem_filter.1 hp
    exact ⟨this.1, by simpa using this.2⟩
theorem Turn.ofIdx {o' : Obj} : ∀ (bs : List (Nat × Obj)) (i g : Nat) (o : Obj), bs[i]? = some (g, o) → Turn bs g o o' (bs.set i (g, o'))
  | [], i, g, o, h => by simp at h
  | p :: bs, 0, g, o, h => by simp at h; subst h; exact .here
  | p :: bs, i + 1, g, o, h => by simp at h; exact .there (Turn.ofIdx bs i g o h)
theorem objC_ne {cs : List Value} {cur : Array Value} : objC cs 118 ≠ .cells cur 5 := by intro h; simp [objC] at h
theorem Holds.key {w0 w : World} {S : List Nat} {bs : List (Nat × Obj)} {rows : List Row} (h : Holds w0 S bs rows w) {g : Nat} {o o' : Obj} (h1 : (g, o) ∈ bs) (h2 : (g, o') ∈ bs) : o = o' := by
  have a := h.blk _ h1
  have b := h.blk _ h2
  simp only at a b
  rw [a] at b
  exact Option.some.inj b
/-- What the other Hashes hold stays. -/
def Others (bs bs' : List (Nat × Obj)) (g : Nat) : Prop := ∀ g' l', g' ≠ g → HashAt bs g' l' → HashAt bs' g' l'
theorem HashAt.mono {bs bs' : List (Nat × Obj)} {g : Nat} {l : List UInt8} (h : HashAt bs g l) (hs : ∀ p ∈ bs, p ∈ bs') : HashAt bs' g l := by
  obtain ⟨rv, ex, h1, h2, h3⟩ := h
  exact ⟨rv, ex, hs _ h1, h2, fun p hp => ⟨hs _ (h3 p hp).1, (h3 p hp).2⟩⟩
theorem HashAt.byts {w0 w : World} {S : List Nat} {bs : List (Nat × Obj)} {rows : List Row} {g : Nat} {l : List UInt8} (h : HashAt bs g l) (hH : Holds w0 S bs rows w) :
    ∃ rv, w.heap[g]? = some (objC (hcells (absorb initS l).1 rv l.length) 118) ∧ Byts w rv (absorb initS l).2 := by
  obtain ⟨rv, ex, h1, h2, h3⟩ := h
  exact ⟨rv, hH.blk _ h1, h2.byts hH fun q hq => (h3 q hq).1⟩
theorem hWrite (w0 w : World) (S : List Nat) (bs : List (Nat × Obj)) (rows : List Row) (g : Nat) (vb : Value) (l b : List UInt8) (hH : Holds w0 S bs rows w) (h : HashAt bs g l) (hb : Byts w vb b) (hn : l.length + b.length ≤ 900000) :
    Calls Try.prog 34 #[.pointer (some ⟨g, 0, none⟩), vb] w (fun e w' => e = .returned (.int .i64 0) ∧ ∃ bs', Holds w0 S bs' rows w' ∧ HashAt bs' g (l ++ b) ∧ Others bs bs' g) := by
  have hsh := absorb_short initS l
  obtain ⟨rv, h1, h2⟩ := h.byts hH
  refine (write_any w g _ rv vb _ b l.length h1 h2 hb (by omega) (by omega)).mono fun e w' ⟨he, rv2, ex2, hre, hex, hnd, ht⟩ => ⟨he, ?_⟩
  obtain ⟨rv0, ex0, hm0, _, _⟩ := h
  obtain ⟨i, hi, hig⟩ := List.getElem_of_mem hm0
  have hi? : bs[i]? = some (g, objC (hcells (absorb initS l).1 rv0 l.length) 118) := by rw [List.getElem?_eq_getElem hi, hig]
  rw [← absorb_append] at hre ht
  have hturn := Turn.ofIdx (o' := objC (hcells (absorb initS (l ++ b)).1 rv2 (l.length + b.length)) 118) bs i g _ hi?
  have hq := Holds.addBlks (ex := ex2) (hH.turnedBy hturn ht) ht.size (by
    obtain ⟨pre, post, e1, e2⟩ := hturn.split
    intro p hp
    rw [e2] at hp
    have : ∃ q ∈ bs, q.1 = p.1 := by
      rw [e1]
      rcases List.mem_append.1 hp with a | a
      · exact ⟨p, List.mem_append.2 (.inl a), rfl⟩
      · rcases List.mem_cons.1 a with rfl | a
        · exact ⟨(g, _), List.mem_append.2 (.inr List.mem_cons_self), rfl⟩
        · exact ⟨p, List.mem_append.2 (.inr (List.mem_cons_of_mem _ a)), rfl⟩
    obtain ⟨q, hq, e⟩ := this
    rw [← e]
    exact hH.lt hq) (fun q hq k hk => (hH.rowlt hq k hk).2) hH.size hex hnd
  refine ⟨_, hq, ?_, ?_⟩
  · obtain ⟨ex3, hre3, h3⟩ := hre.only
    refine ⟨rv2, ex3, ?_, hre3, fun p hp => ⟨List.mem_append.2 (.inr (h3 p hp).1), (h3 p hp).2⟩⟩
    rw [List.length_append]
    exact List.mem_append.2 (.inl (List.mem_iff_getElem?.2 ⟨i, by rw [List.getElem?_set_self hi]⟩))
  · intro g' l' hne h'
    obtain ⟨rv', ex', m1, m2, m3⟩ := h'
    have keep : ∀ p ∈ bs, p.1 ≠ g → p ∈ bs.set i (g, objC (hcells (absorb initS (l ++ b)).1 rv2 (l.length + b.length)) 118) ++ ex2 := by
      intro p hp hpg
      refine List.mem_append.2 (.inl ?_)
      obtain ⟨j, hj, hjp⟩ := List.getElem_of_mem hp
      refine List.mem_iff_getElem?.2 ⟨j, ?_⟩
      have hij : i ≠ j := by
        intro e; subst e
        rw [hig] at hjp
        exact hpg (by rw [← hjp])
      rw [List.getElem?_set_ne hij, List.getElem?_eq_getElem hj, hjp]
    refine ⟨rv', ex', keep _ m1 hne, m2, fun p hp => ⟨keep p (m3 p hp).1 ?_, (m3 p hp).2⟩⟩
    intro e
    obtain ⟨cur, hcur⟩ := (m3 p hp).2
    have hp' : (g, p.2) ∈ bs := by rw [← e]; exact (m3 p hp).1
    have := hH.key hm0 hp'
    rw [hcur] at this
    exact objC_ne this
theorem hSum (w0 w : World) (S : List Nat) (bs : List (Nat × Obj)) (rows : List Row) (g : Nat) (l : List UInt8) (hH : Holds w0 S bs rows w) (h : HashAt bs g l) (hn : l.length ≤ 900000) :
    Calls Try.prog 33 #[.pointer (some ⟨g, 0, none⟩)] w (RetA w (sumB l)) := by
  have hsh := absorb_short initS l
  obtain ⟨rv, h1, h2⟩ := h.byts hH
  have := sum_any w g _ rv _ l.length h1 h2 (by omega) (by omega)
  rw [← sumB_absorb] at this
  exact this
theorem hLen (w0 w : World) (S : List Nat) (bs : List (Nat × Obj)) (rows : List Row) (g : Nat) (l : List UInt8) (hH : Holds w0 S bs rows w) (h : HashAt bs g l) :
    Calls Try.prog 39 #[.pointer (some ⟨g, 0, none⟩)] w (fun e w' => e = .returned (.int .i64 l.length) ∧ Below w.heap.size w w') := by
  obtain ⟨rv, h1, _⟩ := h.byts hH
  exact len_any w g _ rv l.length h1
theorem hNewBy {w0 w w' : World} {S : List Nat} {bs : List (Nat × Obj)} {rows : List Row} {l : List UInt8} {e : Ending} (hH : Holds w0 S bs rows w) (ho : NewOut w (absorb initS l).1 (absorb initS l).2 l.length e w') :
    ∃ g bs', e = .returned (.pointer (some ⟨g, 0, none⟩)) ∧ Holds w0 S bs' rows w' ∧ HashAt bs' g l ∧ (∀ g' l', HashAt bs g' l' → HashAt bs' g' l' ∧ g' ≠ g) := by
  obtain ⟨g, rv, ex, he, hre, hex, hnd, hb⟩ := ho
  refine ⟨g, _, he, hH.newBy hex hnd hb, ?_, ?_⟩
  · obtain ⟨ex3, hre3, h3⟩ := hre.only
    exact ⟨rv, ex3, List.mem_append.2 (.inr List.mem_cons_self), hre3, fun p hp => ⟨List.mem_append.2 (.inr (List.mem_cons_of_mem _ (h3 p hp).1)), (h3 p hp).2⟩⟩
  · intro g' l' h'
    refine ⟨h'.mono fun p hp => List.mem_append.2 (.inl hp), ?_⟩
    obtain ⟨_, _, m1, _⟩ := h'
    have h1 := hH.lt m1
    have h2 := (hex _ List.mem_cons_self).1
    simp only at h1 h2
    omega
theorem hNew (w0 w : World) (S : List Nat) (bs : List (Nat × Obj)) (rows : List Row) (hH : Holds w0 S bs rows w) :
    Calls Try.prog 32 #[] w (fun e w' => ∃ g bs', e = .returned (.pointer (some ⟨g, 0, none⟩)) ∧ Holds w0 S bs' rows w' ∧ HashAt bs' g [] ∧ (∀ g' l', HashAt bs g' l' → HashAt bs' g' l' ∧ g' ≠ g)) := by
  have h0 : absorb initS [] = (initS, []) := absorb_done (by simp)
  refine (new_any w).mono fun e w' ho => hNewBy (l := []) hH ?_
  rw [h0]
  exact ho
theorem hClone (w0 w : World) (S : List Nat) (bs : List (Nat × Obj)) (rows : List Row) (g : Nat) (l : List UInt8) (hH : Holds w0 S bs rows w) (h : HashAt bs g l) :
    Calls Try.prog 40 #[.pointer (some ⟨g, 0, none⟩)] w (fun e w' => ∃ g2 bs', e = .returned (.pointer (some ⟨g2, 0, none⟩)) ∧ Holds w0 S bs' rows w' ∧ HashAt bs' g2 l ∧ (∀ g' l', HashAt bs g' l' → HashAt bs' g' l' ∧ g' ≠ g2)) := by
  have hsh := absorb_short initS l
  obtain ⟨rv, h1, h2⟩ := h.byts hH
  exact (clone_any w g _ rv _ l.length h1 h2 (by omega)).mono fun e w' ho => hNewBy hH ho
set_option maxRecDepth 100000 in
set_option maxHeartbeats 2000000 in
theorem writeNil_any (w : World) (v : Value) : Calls Try.prog 34 #[.pointer none, v] w (fun e w' => e = .returned (.int .i64 1) ∧ Below w.heap.size w w') := by
  go_enter Try.func34, Try.ntmps34
  go_wp2
  go_ret
  exact ⟨rfl, Below.refl _ _⟩
set_option maxRecDepth 100000 in
set_option maxHeartbeats 2000000 in
theorem lenNil_any (w : World) : Calls Try.prog 39 #[.pointer none] w (fun e w' => e = .returned (.int .i64 0) ∧ Below w.heap.size w w') := by
  go_enter Try.func39, Try.ntmps39
  go_wp2
  go_ret
  exact ⟨rfl, Below.refl _ _⟩
set_option maxRecDepth 100000 in
set_option maxHeartbeats 2000000 in
theorem cloneNil_any (w : World) : Calls Try.prog 40 #[.pointer none] w (fun e w' => e = .returned (.pointer none) ∧ Below w.heap.size w w') := by
  go_enter Try.func40, Try.ntmps40
  go_wp2
  go_ret
  exact ⟨rfl, Below.refl _ _⟩
theorem BZ25 (w : World) : (Instr.build 25 #[]).run Try.prog w = .ok (Arr.zero 32).val w := by kernel_rfl
set_option maxRecDepth 100000 in
set_option maxHeartbeats 2000000 in
theorem sumNil_any (w : World) : Calls Try.prog 33 #[.pointer none] w (RetA w (Arr.zero 32)) := by
  have HH := hid (Holds.init w)
  go_enter Try.func33, Try.ntmps33
  go_wp2_with (first
    | ((first
        | ((with_reducible apply wpL_skip); rfl; skip)
        | ((with_reducible apply wpList_build (parts := #[]) (v := (Arr.zero 32).val)); (exact BZ25); rfl)
        | ((with_reducible apply wpL_nilCheck); rfl; rfl)
        | ((with_reducible apply wpL_fieldAddr); (first | exact kF115_0 | exact kF115_1 | exact kF115_2 | exact kF115_3 | exact kF115_4 | exact kF115_5 | exact kF115_6 | exact kF115_7 | exact kF118_0 | exact kF118_2); rfl; rfl)
        | ((with_reducible apply wpL_load1 (t := 3) kO3 HH.out); rfl; (first | exact .here | exact .there .here | exact .there (.there .here) | exact .there (.there (.there .here)) | exact .there (.there (.there (.there .here))) | exact .there (.there (.there (.there (.there .here)))) | exact .there (.there (.there (.there (.there (.there .here))))) | exact .there (.there (.there (.there (.there (.there (.there .here))))))); rfl; rfl)
        | ((with_reducible apply wpL_loadArr (t := 25) kA25 HH.out); rfl; (first | exact .here | exact .there .here | exact .there (.there .here) | exact .there (.there (.there .here)) | exact .there (.there (.there (.there .here))) | exact .there (.there (.there (.there (.there .here)))) | exact .there (.there (.there (.there (.there (.there .here))))) | exact .there (.there (.there (.there (.there (.there (.there .here))))))); rfl)
        | ((with_reducible apply wpL_loadC (t := 25) kA25 HH.out); rfl; (first | exact .here | exact .there .here | exact .there (.there .here) | exact .there (.there (.there .here)) | exact .there (.there (.there (.there .here))) | exact .there (.there (.there (.there (.there .here)))) | exact .there (.there (.there (.there (.there (.there .here))))) | exact .there (.there (.there (.there (.there (.there (.there .here))))))); (first | rfl | exact Arr.len _ | (simp; done)); rfl)
        | ((with_reducible apply wpL_load1 (t := 105) kO105 HH.out); rfl; (first | exact .here | exact .there .here | exact .there (.there .here) | exact .there (.there (.there .here)) | exact .there (.there (.there (.there .here))) | exact .there (.there (.there (.there (.there .here)))) | exact .there (.there (.there (.there (.there (.there .here))))) | exact .there (.there (.there (.there (.there (.there (.there .here))))))); rfl; rfl)
        | ((with_reducible apply wpL_loadC (t := 115) kA115 HH.out); rfl; (first | exact .here | exact .there .here | exact .there (.there .here) | exact .there (.there (.there .here)) | exact .there (.there (.there (.there .here))) | exact .there (.there (.there (.there (.there .here)))) | exact .there (.there (.there (.there (.there (.there .here))))) | exact .there (.there (.there (.there (.there (.there (.there .here))))))); (first | rfl | exact Arr.len _ | (simp; done)); rfl)
        | ((with_reducible apply wpL_len (t := 22) Try.underlying22); rfl; rfl)
        | ((with_reducible apply wpL_allocC (dst := some 2) kZ25 HH.out); rfl; (intro g2_ w_ hq_; (try simp only [List.set_cons_zero, List.set_cons_succ] at hq_); clear HH; have HH := hid hq_; clear hq_))
        | ((with_reducible apply wpL_allocC (dst := some 6) kZ25 HH.out); rfl; (intro g6_ w_ hq_; (try simp only [List.set_cons_zero, List.set_cons_succ] at hq_); clear HH; have HH := hid hq_; clear hq_))
        | ((with_reducible apply wpL_allocC (dst := some 7) kZ115 HH.out); rfl; (intro g7_ w_ hq_; (try simp only [List.set_cons_zero, List.set_cons_succ] at hq_); clear HH; have HH := hid hq_; clear hq_))
        | ((with_reducible apply wpL_store1 (t := 5)); rfl; rfl; rfl; (exact kS5); (exact HH.out); (first | exact .here | exact .there .here | exact .there (.there .here) | exact .there (.there (.there .here)) | exact .there (.there (.there (.there .here))) | exact .there (.there (.there (.there (.there .here)))) | exact .there (.there (.there (.there (.there (.there .here))))) | exact .there (.there (.there (.there (.there (.there (.there .here))))))); rfl; (first | exact Nat.le_of_ble_eq_true rfl | (simp; done) | omega); rfl; (intro w_ hq_; (try simp only [List.set_cons_zero, List.set_cons_succ] at hq_); clear HH; have HH := hid hq_; clear hq_))
        | ((with_reducible apply wpL_storeArr (t := 25) kS25 HH.out); rfl; rfl; (first | exact .here | exact .there .here | exact .there (.there .here) | exact .there (.there (.there .here)) | exact .there (.there (.there (.there .here))) | exact .there (.there (.there (.there (.there .here)))) | exact .there (.there (.there (.there (.there (.there .here))))) | exact .there (.there (.there (.there (.there (.there (.there .here))))))); (first | rfl | exact Arr.len _ | (simp; done)); rfl; (intro w_ hq_; (try simp only [List.set_cons_zero, List.set_cons_succ] at hq_); clear HH; have HH := hid hq_; clear hq_))
        | ((with_reducible apply wpL_storeC (t := 25)); rfl; rfl; (exact kS25); (exact HH.out); (first | exact .here | exact .there .here | exact .there (.there .here) | exact .there (.there (.there .here)) | exact .there (.there (.there (.there .here))) | exact .there (.there (.there (.there (.there .here)))) | exact .there (.there (.there (.there (.there (.there .here))))) | exact .there (.there (.there (.there (.there (.there (.there .here))))))); (first | rfl | exact Arr.len _ | (simp; done)); (first | rfl | (intro u_ hu_; simp only [List.mem_cons, List.not_mem_nil, or_false] at hu_; rcases hu_ with rfl | hu_; rfl) | exact byt_cell1 _ | exact cells_one _ | exact wrd_one _ | exact flat_cell1 _); (first | rfl | exact Arr.len _ | (simp; done)); rfl; (intro w_ hq_; (try simp only [List.set_cons_zero, List.set_cons_succ] at hq_); clear HH; have HH := hid hq_; clear hq_))
        | ((with_reducible apply wpL_storeC (t := 115)); rfl; rfl; (exact kS115); (exact HH.out); (first | exact .here | exact .there .here | exact .there (.there .here) | exact .there (.there (.there .here)) | exact .there (.there (.there (.there .here))) | exact .there (.there (.there (.there (.there .here)))) | exact .there (.there (.there (.there (.there (.there .here))))) | exact .there (.there (.there (.there (.there (.there (.there .here))))))); (first | rfl | exact Arr.len _ | (simp; done)); (first | rfl | (intro u_ hu_; simp only [List.mem_cons, List.not_mem_nil, or_false] at hu_; rcases hu_ with rfl | hu_; rfl) | exact byt_cell1 _ | exact cells_one _ | exact wrd_one _ | exact flat_cell1 _); (first | rfl | exact Arr.len _ | (simp; done)); rfl; (intro w_ hq_; (try simp only [List.set_cons_zero, List.set_cons_succ] at hq_); clear HH; have HH := hid hq_; clear hq_))
        | ((with_reducible apply wpL_move); rfl; rfl)
        | ((with_reducible apply wpL_assign); rfl; rfl)
        | ((with_reducible apply wpL_pick); rfl; rfl; rfl)
        | ((with_reducible apply wpL_not); rfl; rfl)
        | ((with_reducible apply wpL_cmp (b := true)); rfl; rfl; rfl; (first | rfl | assumption | (simp only [cmpB, decide_eq_true_eq, decide_eq_false_iff_not, beq_iff_eq, bne_iff_ne, ne_eq, beq_eq_false_iff_ne, bne_eq_false_iff_eq, gt_iff_lt, ge_iff_le]; omega) | (simp; omega)); rfl)
        | ((with_reducible apply wpL_cmp (b := false)); rfl; rfl; rfl; (first | rfl | assumption | (simp only [cmpB, decide_eq_true_eq, decide_eq_false_iff_not, beq_iff_eq, bne_iff_ne, ne_eq, beq_eq_false_iff_ne, bne_eq_false_iff_eq, gt_iff_lt, ge_iff_le]; omega) | (simp; omega)); rfl)
        | ((with_reducible apply wpL_cmp); rfl; rfl; rfl; rfl; rfl)
        | ((with_reducible apply wpL_arith); rfl; rfl; rfl; (exact IntWalk.i64_in _ (by (try simp only [arithI]); omega)); rfl)); (try simp only [arithI, Act.put, Act.eval, List.setIfInBounds_toArray, List.set_cons_succ, List.set_cons_zero, Array.getD_eq_getD_getElem?, List.getElem?_toArray, List.getElem?_cons_succ, List.getElem?_cons_zero, Option.getD_some])))
  refine bodyPost_ret (res1 rfl (resC kA25 HH.out (by rfl) .here (Arr.len _))) rfl ?_
  exact ⟨rfl, HH.out.below⟩
set_option maxRecDepth 100000 in
set_option maxHeartbeats 2000000 in
theorem law_nil (w : World) (v : Value) (l : List UInt8) (hl : Byts w v l) : Calls Try.prog 10 #[v] w (RetB w true) := by
  obtain ⟨ao, cap, rfl, hc⟩ := hl.shape
  have HL := hid hl
  clear hl
  have HH := hid (Holds.init w)
  go_enter Try.func10, Try.ntmps10
  go_wp2_with (first
    | ((first
        | ((with_reducible apply wpL_skip); rfl; skip)
        | (go_at_call 21; (first | ((have hcall_ := hid (known_any _)); (with_reducible refine hcall_.out.mono ?_); clear hcall_) | (with_reducible refine (known_any _).mono ?_)); rintro e_ w2_ ⟨rfl, hb_⟩; (have hq_ := HH.out.grow hb_); clear HH; have HH := hid hq_; clear hq_ hb_)
        | (go_at_call 19; (first | ((have hcall_ := hid (cut_any _ _ _ l HL.out)); (with_reducible refine hcall_.out.mono ?_); clear hcall_) | (with_reducible refine (cut_any _ _ _ l HL.out).mono ?_)); rintro e_ w2_ ⟨ao1, cap1, rfl, hc1_, hb_⟩; (have hq_ := HH.out.grow hb_); clear HH; have HH := hid hq_; clear hq_)
        | (go_at_call 34; (first | ((have hcall_ := hid (writeNil_any _ _)); (with_reducible refine hcall_.out.mono ?_); clear hcall_) | (with_reducible refine (writeNil_any _ _).mono ?_)); rintro e_ w2_ ⟨rfl, hb_⟩; (have hq_ := HH.out.grow hb_); clear HH; have HH := hid hq_; clear hq_ hb_)
        | (go_at_call 33; (first | ((have hcall_ := hid (sumNil_any _)); (with_reducible refine hcall_.out.mono ?_); clear hcall_) | (with_reducible refine (sumNil_any _).mono ?_)); rintro e_ w2_ ⟨rfl, hb_⟩; (have hq_ := HH.out.grow hb_); clear HH; have HH := hid hq_; clear hq_ hb_)
        | (go_at_call 39; (first | ((have hcall_ := hid (lenNil_any _)); (with_reducible refine hcall_.out.mono ?_); clear hcall_) | (with_reducible refine (lenNil_any _).mono ?_)); rintro e_ w2_ ⟨rfl, hb_⟩; (have hq_ := HH.out.grow hb_); clear HH; have HH := hid hq_; clear hq_ hb_)
        | (go_at_call 40; (first | ((have hcall_ := hid (cloneNil_any _)); (with_reducible refine hcall_.out.mono ?_); clear hcall_) | (with_reducible refine (cloneNil_any _).mono ?_)); rintro e_ w2_ ⟨rfl, hb_⟩; (have hq_ := HH.out.grow hb_); clear HH; have HH := hid hq_; clear hq_ hb_)
        | ((with_reducible apply wpList_build (parts := #[]) (v := (Arr.zero 32).val)); (exact BZ25); rfl)
        | ((with_reducible apply wpL_eqlA (b := true) (p := Arr.zero 32) (q := Arr.zero 32) kR25); rfl; rfl; (exact arrRefl _); rfl)
        | ((with_reducible apply wpL_nilCheck); rfl; rfl)
        | ((with_reducible apply wpL_move); rfl; rfl)
        | ((with_reducible apply wpL_assign); rfl; rfl)
        | ((with_reducible apply wpL_pick); rfl; rfl; rfl)
        | ((with_reducible apply wpL_not); rfl; rfl)
        | ((with_reducible apply wpL_cmp (b := true)); rfl; rfl; rfl; (first | rfl | assumption | (simp only [cmpB, decide_eq_true_eq, decide_eq_false_iff_not, beq_iff_eq, bne_iff_ne, ne_eq, beq_eq_false_iff_ne, bne_eq_false_iff_eq, gt_iff_lt, ge_iff_le]; omega) | (simp; omega)); rfl)
        | ((with_reducible apply wpL_cmp (b := false)); rfl; rfl; rfl; (first | rfl | assumption | (simp only [cmpB, decide_eq_true_eq, decide_eq_false_iff_not, beq_iff_eq, bne_iff_ne, ne_eq, beq_eq_false_iff_ne, bne_eq_false_iff_eq, gt_iff_lt, ge_iff_le]; omega) | (simp; omega)); rfl)
        | ((with_reducible apply wpL_cmp); rfl; rfl; rfl; rfl; rfl)
        | ((with_reducible apply wpL_arith); rfl; rfl; rfl; (exact IntWalk.i64_in _ (by (try simp only [arithI]); omega)); rfl)); (try simp only [arithI, Act.put, Act.eval, List.setIfInBounds_toArray, List.set_cons_succ, List.set_cons_zero, Array.getD_eq_getD_getElem?, List.getElem?_toArray, List.getElem?_cons_succ, List.getElem?_cons_zero, Option.getD_some])))
  go_ret
  exact RetB.mk rfl HH.out.below
set_option maxRecDepth 100000 in
set_option maxHeartbeats 2000000 in
theorem law_clone (w : World) (va vb vc : Value) (a b c : List UInt8) (ha : Byts w va a) (hb : Byts w vb b) (hc : Byts w vc c) : Calls Try.prog 9 #[va, vb, vc] w (RetB w true) := by
  obtain ⟨aa, ca, rfl, _⟩ := ha.shape
  obtain ⟨ab, cb, rfl, _⟩ := hb.shape
  obtain ⟨ac, cc, rfl, _⟩ := hc.shape
  have LA := cutB_len a
  have LB := cutB_len b
  have LC := cutB_len c
  have HA := hid ha
  have HB := hid hb
  have HC := hid hc
  clear ha hb hc
  have HH := hid (Holds.init w)
  obtain ⟨x, hx⟩ : ∃ x, cutB a = x := ⟨_, rfl⟩
  obtain ⟨y, hy⟩ : ∃ x, cutB b = x := ⟨_, rfl⟩
  obtain ⟨z, hz⟩ : ∃ x, cutB c = x := ⟨_, rfl⟩
  have HX := hid hx
  have HY := hid hy
  have HZ := hid hz
  rw [hx] at LA
  rw [hy] at LB
  rw [hz] at LC
  clear hx hy hz
  have N0 := hid (show ([] : List UInt8) ++ x = x from rfl)
  obtain ⟨xy, hxy⟩ : ∃ l, x ++ y = l := ⟨_, rfl⟩
  obtain ⟨xz, hxz⟩ : ∃ l, x ++ z = l := ⟨_, rfl⟩
  have LXY : xy.length ≤ 1000 := by rw [← hxy, List.length_append]; omega
  have LXZ : xz.length ≤ 1000 := by rw [← hxz, List.length_append]; omega
  have EXZ := hid (show (xz.length : Int) = (x.length : Int) + (z.length : Int) from by rw [← hxz, List.length_append]; omega)
  have HXY := hid hxy
  have HXZ := hid hxz
  clear hxy hxz
  go_enter Try.func9, Try.ntmps9
  go_wp2_with (first
    | ((first
        | ((with_reducible apply wpL_skip); rfl; skip)
        | (go_at_call 19; (with_reducible refine (cut_any _ _ _ a HA.out).mono ?_); rw [HX.out]; rintro e_ w2_ ⟨ao1, cap1, rfl, hc1_, hb_⟩; (have hq_ := HH.out.grow hb_); clear HH; have HH := hid hq_; have XA := hid hc1_; clear hq_ hb_ hc1_)
        | (go_at_call 19; (with_reducible refine (cut_any _ _ _ b HB.out).mono ?_); rw [HY.out]; rintro e_ w2_ ⟨ao2, cap2, rfl, hc1_, hb_⟩; (have hq_ := HH.out.grow hb_); clear HH; have HH := hid hq_; have XB := hid hc1_; clear hq_ hb_ hc1_)
        | (go_at_call 19; (with_reducible refine (cut_any _ _ _ c HC.out).mono ?_); rw [HZ.out]; rintro e_ w2_ ⟨ao3, cap3, rfl, hc1_, hb_⟩; (have hq_ := HH.out.grow hb_); clear HH; have HH := hid hq_; have XC := hid hc1_; clear hq_ hb_ hc1_)
        | (go_at_call 32; (have hcall_ := hid (hNew w _ _ _ _ HH.out)); (with_reducible refine hcall_.out.mono ?_); clear hcall_; rintro e_ w2_ ⟨g1, bs1, rfl, hq_, ha_, -⟩; clear HH; have HH := hid hq_; have H1 := hid ha_; clear hq_ ha_)
        | (go_at_call 34; (have hcall_ := hid (hWrite w _ _ _ _ g2 _ x z HH.out H2.out (HH.out.sl XC.out) (by omega))); (with_reducible refine hcall_.out.mono ?_); clear hcall_; rw [HXZ.out]; rintro e_ w2_ ⟨rfl, bs5, hq_, ha_, ho_⟩; (have h1_ := ho_ g1 _ NE.out H1.out); clear HH H1 H2; have HH := hid hq_; have H2 := hid ha_; have H1 := hid h1_; clear hq_ ha_ ho_ h1_)
        | (go_at_call 34; (have hcall_ := hid (hWrite w _ _ _ _ g1 _ x y HH.out H1.out (HH.out.sl XB.out) (by omega))); (with_reducible refine hcall_.out.mono ?_); clear hcall_; rw [HXY.out]; rintro e_ w2_ ⟨rfl, bs4, hq_, ha_, ho_⟩; (have h2_ := ho_ g2 _ (fun e => NE.out e.symm) H2.out); clear HH H1 H2; have HH := hid hq_; have H1 := hid ha_; have H2 := hid h2_; clear hq_ ha_ ho_ h2_)
        | (go_at_call 34; (have hcall_ := hid (hWrite w _ _ _ _ g1 _ [] x HH.out H1.out (HH.out.sl XA.out) (by simp; omega))); (with_reducible refine hcall_.out.mono ?_); clear hcall_; rw [N0.out]; rintro e_ w2_ ⟨rfl, bs2, hq_, ha_, -⟩; clear HH H1; have HH := hid hq_; have H1 := hid ha_; clear hq_ ha_)
        | (go_at_call 40; (have hcall_ := hid (hClone w _ _ _ _ g1 x HH.out H1.out)); (with_reducible refine hcall_.out.mono ?_); clear hcall_; rintro e_ w2_ ⟨g2, bs3, rfl, hq_, ha_, ho_⟩; (have h1_ := ho_ g1 _ H1.out); clear HH H1; have HH := hid hq_; have H2 := hid ha_; have H1 := hid h1_.1; have NE := hid h1_.2; clear hq_ ha_ ho_ h1_)
        | (go_at_call 21; (first | ((have hcall_ := hid (known_any _)); (with_reducible refine hcall_.out.mono ?_); clear hcall_) | (with_reducible refine (known_any _).mono ?_)); rintro e_ w2_ ⟨rfl, hb_⟩; (have hq_ := HH.out.grow hb_); clear HH; have HH := hid hq_; clear hq_ hb_)
        | (go_at_call 33; (first | ((have hcall_ := hid (hSum w _ _ _ _ g1 xy HH.out H1.out (by omega))); (with_reducible refine hcall_.out.mono ?_); clear hcall_) | (with_reducible refine (hSum w _ _ _ _ g1 xy HH.out H1.out (by omega)).mono ?_)); rintro e_ w2_ ⟨rfl, hb_⟩; (have hq_ := HH.out.grow hb_); clear HH; have HH := hid hq_; clear hq_ hb_)
        | (go_at_call 33; (first | ((have hcall_ := hid (hSum w _ _ _ _ g2 xz HH.out H2.out (by omega))); (with_reducible refine hcall_.out.mono ?_); clear hcall_) | (with_reducible refine (hSum w _ _ _ _ g2 xz HH.out H2.out (by omega)).mono ?_)); rintro e_ w2_ ⟨rfl, hb_⟩; (have hq_ := HH.out.grow hb_); clear HH; have HH := hid hq_; clear hq_ hb_)
        | ((with_reducible apply wpL_buildB []); rfl; rfl; (exact (by omega)); (exact HH.out); rfl; (intro g_ w_ hq_; clear HH; have HH := hid hq_; clear hq_))
        | ((with_reducible apply wpL_appendB (l := []) (l2 := x) HH.out (HH.out.sl XA.out)); rfl; rfl; (exact (by simp; omega)); rfl; rfl; rfl; (rw [N0.out]; intro ao5 cap5 w_ hq_; clear HH; have HH := hid hq_; clear hq_))
        | ((with_reducible apply wpL_appendB (dst := some 39) (l := x) (l2 := y) HH.out (HH.out.sl XB.out)); rfl; rfl; (exact (by omega)); rfl; rfl; rfl; (rw [HXY.out]; intro ao6 cap6 w_ hq_; clear HH; have HH := hid hq_; clear hq_))
        | ((with_reducible apply wpL_appendB (dst := some 50) (l := x) (l2 := z) HH.out (HH.out.sl XC.out)); rfl; rfl; (exact (by omega)); rfl; rfl; rfl; (rw [HXZ.out]; intro ao7 cap7 w_ hq_; clear HH; have HH := hid hq_; clear hq_))
        | (go_at_call 22; (first | ((have hcall_ := hid (sumR_any _ _ xz HH.out.sl0 (by omega))); (with_reducible refine hcall_.out.mono ?_); clear hcall_) | (with_reducible refine (sumR_any _ _ xz HH.out.sl0 (by omega)).mono ?_)); rintro e_ w2_ ⟨rfl, hb_⟩; (have hq_ := HH.out.grow hb_); clear HH; have HH := hid hq_; clear hq_ hb_)
        | (go_at_call 22; (first | ((have hcall_ := hid (sumR_any _ _ xy HH.out.sl0 (by omega))); (with_reducible refine hcall_.out.mono ?_); clear hcall_) | (with_reducible refine (sumR_any _ _ xy HH.out.sl0 (by omega)).mono ?_)); rintro e_ w2_ ⟨rfl, hb_⟩; (have hq_ := HH.out.grow hb_); clear HH; have HH := hid hq_; clear hq_ hb_)
        | ((with_reducible apply wpL_eqlA (b := true) (p := sumB xy) (q := sumB xy) kR24); rfl; rfl; (exact arrRefl _); rfl)
        | ((with_reducible apply wpL_eqlA (b := true) (p := sumB xz) (q := sumB xz) kR24); rfl; rfl; (exact arrRefl _); rfl)
        | (go_at_call 39; (have hcall_ := hid (hLen w _ _ _ _ g2 xz HH.out H2.out)); (with_reducible refine hcall_.out.mono ?_); clear hcall_; rw [EXZ.out]; rintro e_ w2_ ⟨rfl, hb_⟩; (have hq_ := HH.out.grow hb_); clear HH; have HH := hid hq_; clear hq_ hb_)
        | ((with_reducible apply wpL_nilCheck); rfl; rfl)
        | ((with_reducible apply wpL_len (t := 22) Try.underlying22); rfl; rfl)
        | ((with_reducible apply wpL_move); rfl; rfl)
        | ((with_reducible apply wpL_assign); rfl; rfl)
        | ((with_reducible apply wpL_pick); rfl; rfl; rfl)
        | ((with_reducible apply wpL_not); rfl; rfl)
        | ((with_reducible apply wpL_cmp (b := true)); rfl; rfl; rfl; (first | rfl | assumption | (simp only [cmpB, decide_eq_true_eq, decide_eq_false_iff_not, beq_iff_eq, bne_iff_ne, ne_eq, beq_eq_false_iff_ne, bne_eq_false_iff_eq, gt_iff_lt, ge_iff_le]; omega) | (simp; omega)); rfl)
        | ((with_reducible apply wpL_cmp (b := false)); rfl; rfl; rfl; (first | rfl | assumption | (simp only [cmpB, decide_eq_true_eq, decide_eq_false_iff_not, beq_iff_eq, bne_iff_ne, ne_eq, beq_eq_false_iff_ne, bne_eq_false_iff_eq, gt_iff_lt, ge_iff_le]; omega) | (simp; omega)); rfl)
        | ((with_reducible apply wpL_cmp); rfl; rfl; rfl; rfl; rfl)
        | ((with_reducible apply wpL_arith); rfl; rfl; rfl; (exact IntWalk.i64_in _ (by (try simp only [arithI]); omega)); rfl)); (try simp only [arithI, Act.put, Act.eval, List.setIfInBounds_toArray, List.set_cons_succ, List.set_cons_zero, Array.getD_eq_getD_getElem?, List.getElem?_toArray, List.getElem?_cons_succ, List.getElem?_cons_zero, Option.getD_some])))
  go_ret
  exact RetB.mk rfl HH.out.below
end Go.Proofs.Ytgkfopodhikckaa
/- The laws Sha256Lengths and Sha256Write: they return true. Condition: slices of at most 2^47 bytes. -/
namespace Go.Proofs.Ytgkfopodhikckaa
open Go.RowKit
theorem arrNe {n : Nat} (x : Arr n) : (!(x == x)) = false := by rw [arrRefl]; rfl
theorem hLen0 (w0 w : World) (S : List Nat) (bs : List (Nat × Obj)) (rows : List Row) (g : Nat) (hH : Holds w0 S bs rows w) (h : HashAt bs g []) :
    Calls Try.prog 39 #[.pointer (some ⟨g, 0, none⟩)] w (fun e w' => e = .returned (.int .i64 0) ∧ Below w.heap.size w w') := hLen w0 w S bs rows g [] hH h
def LenRel (w : World) (c : UInt8) (g : Nat) (bv iv : Value) (wr : World) : Prop :=
  ∃ (k : Nat) (l : List UInt8) (bs : List (Nat × Obj)) (ao : Option Addr) (cap : Nat), k ≤ 201 ∧ l.length = k ∧ iv = .int .i64 k ∧ bv = .slice ao l.length cap ∧ HashAt bs g l ∧ Holds w [] bs [rowB ao cap l] wr
set_option maxRecDepth 100000 in
set_option maxHeartbeats 2000000 in
theorem law_lengths (w : World) (c : UInt8) : Calls Try.prog 5 #[byt c] w (RetB w true) := by
  have HH := hid (Holds.init w)
  go_enter Try.func5, Try.ntmps5
  go_wp2_with (first
    | ((first
        | ((with_reducible apply wpL_skip); rfl; skip)
        | (go_at_call 32; (have hcall_ := hid (hNew w _ _ _ _ HH.out)); (with_reducible refine hcall_.out.mono ?_); clear hcall_; rintro e_ w2_ ⟨g1, bs1, rfl, hq_, ha_, -⟩; clear HH; have HH := hid hq_; have H1 := hid ha_; clear hq_ ha_)
        | (go_at_call 21; (first | ((have hcall_ := hid (known_any _)); (with_reducible refine hcall_.out.mono ?_); clear hcall_) | (with_reducible refine (known_any _).mono ?_)); rintro e_ w2_ ⟨rfl, hb_⟩; (have hq_ := HH.out.grow hb_); clear HH; have HH := hid hq_; clear hq_ hb_)
        | ((with_reducible apply wpL_nilCheck); rfl; rfl)
        | ((with_reducible apply wpL_move); rfl; rfl)
        | ((with_reducible apply wpL_assign); rfl; rfl)
        | ((with_reducible apply wpL_pick); rfl; rfl; rfl)
        | ((with_reducible apply wpL_not); rfl; rfl)
        | ((with_reducible apply wpL_cmp (b := true)); rfl; rfl; rfl; (first | rfl | assumption | (simp only [cmpB, decide_eq_true_eq, decide_eq_false_iff_not, beq_iff_eq, bne_iff_ne, ne_eq, beq_eq_false_iff_ne, bne_eq_false_iff_eq, gt_iff_lt, ge_iff_le]; omega) | (simp; omega)); rfl)
        | ((with_reducible apply wpL_cmp (b := false)); rfl; rfl; rfl; (first | rfl | assumption | (simp only [cmpB, decide_eq_true_eq, decide_eq_false_iff_not, beq_iff_eq, bne_iff_ne, ne_eq, beq_eq_false_iff_ne, bne_eq_false_iff_eq, gt_iff_lt, ge_iff_le]; omega) | (simp; omega)); rfl)
        | ((with_reducible apply wpL_cmp); rfl; rfl; rfl; rfl; rfl)
        | ((with_reducible apply wpL_arith); rfl; rfl; rfl; (exact IntWalk.i64_in _ (by (try simp only [arithI]); omega)); rfl)); (try simp only [arithI, Act.put, Act.eval, List.setIfInBounds_toArray, List.set_cons_succ, List.set_cons_zero, Array.getD_eq_getD_getElem?, List.getElem?_toArray, List.getElem?_cons_succ, List.getElem?_cons_zero, Option.getD_some])))
  go_loopw [4, 5] (LenRel w c g1) (fun _ i _ => 201 - (intOf i).toNat)
  case atStart => exact ⟨0, [], bs1, none, 0, by omega, rfl, rfl, rfl, H1.out, HH.out.addNil 5 1⟩
  case round =>
    obtain ⟨k, l, bs, ao, cap, hk, hl, rfl, rfl, ha, hr⟩ := hrel
    clear HH H1
    have HH := hid hr
    have H1 := hid ha
    have HL := hid hl
    have hl2 : l.length ≤ 201 := by omega
    clear hr ha hl
    by_cases hlt : k ≤ 200
    · skip
      go_wp2_with (first
        | ((first
            | ((with_reducible apply wpL_skip); rfl; skip)
            | (go_at_call 20; (first | ((have hcall_ := hid (shaSum_any _ _ l HH.out.sl0 (by omega))); (with_reducible refine hcall_.out.mono ?_); clear hcall_) | (with_reducible refine (shaSum_any _ _ l HH.out.sl0 (by omega)).mono ?_)); rintro e_ w2_ ⟨rfl, hb_⟩; (have hq_ := HH.out.grow hb_); clear HH; have HH := hid hq_; clear hq_ hb_)
            | (go_at_call 22; (first | ((have hcall_ := hid (sumR_any _ _ l HH.out.sl0 (by omega))); (with_reducible refine hcall_.out.mono ?_); clear hcall_) | (with_reducible refine (sumR_any _ _ l HH.out.sl0 (by omega)).mono ?_)); rintro e_ w2_ ⟨rfl, hb_⟩; (have hq_ := HH.out.grow hb_); clear HH; have HH := hid hq_; clear hq_ hb_)
            | (go_at_call 33; (first | ((have hcall_ := hid (hSum w _ _ _ _ g1 l HH.out H1.out (by omega))); (with_reducible refine hcall_.out.mono ?_); clear hcall_) | (with_reducible refine (hSum w _ _ _ _ g1 l HH.out H1.out (by omega)).mono ?_)); rintro e_ w2_ ⟨rfl, hb_⟩; (have hq_ := HH.out.grow hb_); clear HH; have HH := hid hq_; clear hq_ hb_)
            | ((with_reducible apply wpL_neqA (b := false) (p := sumB l) (q := sumB l) kR24); rfl; rfl; (exact arrNe _); rfl)
            | ((with_reducible apply wpL_buildB [c] (dst := some 31)); rfl; rfl; (exact (by omega)); (exact HH.out); rfl; (intro g_ w_ hq_; clear HH; have HH := hid hq_; clear hq_))
            | ((with_reducible apply wpL_buildB [c] (dst := some 35)); rfl; rfl; (exact (by omega)); (exact HH.out); rfl; (intro g_ w_ hq_; clear HH; have HH := hid hq_; clear hq_))
            | (go_at_call 34; (have hcall_ := hid (hWrite w _ _ _ _ g1 (.slice (some ⟨g_, 0, none⟩) 1 1) l [c] HH.out H1.out HH.out.sl0 (by simp; omega))); (with_reducible refine hcall_.out.mono ?_); clear hcall_; rintro e_ w2_ ⟨rfl, bs2, hq_, ha_, -⟩; clear HH H1; have HH := hid hq_.dropRow; have H1 := hid ha_; clear hq_ ha_)
            | ((with_reducible apply wpL_appendB (dst := some 36) (l := l) (l2 := [c]) HH.out.swap HH.out.sl0); rfl; rfl; (exact (by simp; omega)); rfl; rfl; rfl; (intro ao1 cap1 w_ hq_; clear HH; have HH := hid hq_.dropSnd; clear hq_))
            | ((with_reducible apply wpL_nilCheck); rfl; rfl)
            | ((with_reducible apply wpL_move); rfl; rfl)
            | ((with_reducible apply wpL_assign); rfl; rfl)
            | ((with_reducible apply wpL_pick); rfl; rfl; rfl)
            | ((with_reducible apply wpL_not); rfl; rfl)
            | ((with_reducible apply wpL_cmp (b := true)); rfl; rfl; rfl; (first | rfl | assumption | (simp only [cmpB, decide_eq_true_eq, decide_eq_false_iff_not, beq_iff_eq, bne_iff_ne, ne_eq, beq_eq_false_iff_ne, bne_eq_false_iff_eq, gt_iff_lt, ge_iff_le]; omega) | (simp; omega)); rfl)
            | ((with_reducible apply wpL_cmp (b := false)); rfl; rfl; rfl; (first | rfl | assumption | (simp only [cmpB, decide_eq_true_eq, decide_eq_false_iff_not, beq_iff_eq, bne_iff_ne, ne_eq, beq_eq_false_iff_ne, bne_eq_false_iff_eq, gt_iff_lt, ge_iff_le]; omega) | (simp; omega)); rfl)
            | ((with_reducible apply wpL_cmp); rfl; rfl; rfl; rfl; rfl)
            | ((with_reducible apply wpL_arith); rfl; rfl; rfl; (exact IntWalk.i64_in _ (by (try simp only [arithI]); omega)); rfl)); (try simp only [arithI, Act.put, Act.eval, List.setIfInBounds_toArray, List.set_cons_succ, List.set_cons_zero, Array.getD_eq_getD_getElem?, List.getElem?_toArray, List.getElem?_cons_succ, List.getElem?_cons_zero, Option.getD_some])))
      go_roundw
      case rel => exact ⟨k + 1, l ++ [c], bs2, _, _, by omega, by rw [List.length_append, HL.out]; rfl, by go_num, rfl, H1.out, HH.out⟩
      case measure => simp [intOf]; omega
    · skip
      go_wp2_with (first
        | ((first
            | ((with_reducible apply wpL_skip); rfl; skip)
            | ((with_reducible apply wpL_nilCheck); rfl; rfl)
            | ((with_reducible apply wpL_move); rfl; rfl)
            | ((with_reducible apply wpL_assign); rfl; rfl)
            | ((with_reducible apply wpL_pick); rfl; rfl; rfl)
            | ((with_reducible apply wpL_not); rfl; rfl)
            | ((with_reducible apply wpL_cmp (b := true)); rfl; rfl; rfl; (first | rfl | assumption | (simp only [cmpB, decide_eq_true_eq, decide_eq_false_iff_not, beq_iff_eq, bne_iff_ne, ne_eq, beq_eq_false_iff_ne, bne_eq_false_iff_eq, gt_iff_lt, ge_iff_le]; omega) | (simp; omega)); rfl)
            | ((with_reducible apply wpL_cmp (b := false)); rfl; rfl; rfl; (first | rfl | assumption | (simp only [cmpB, decide_eq_true_eq, decide_eq_false_iff_not, beq_iff_eq, bne_iff_ne, ne_eq, beq_eq_false_iff_ne, bne_eq_false_iff_eq, gt_iff_lt, ge_iff_le]; omega) | (simp; omega)); rfl)
            | ((with_reducible apply wpL_cmp); rfl; rfl; rfl; rfl; rfl)
            | ((with_reducible apply wpL_arith); rfl; rfl; rfl; (exact IntWalk.i64_in _ (by (try simp only [arithI]); omega)); rfl)); (try simp only [arithI, Act.put, Act.eval, List.setIfInBounds_toArray, List.set_cons_succ, List.set_cons_zero, Array.getD_eq_getD_getElem?, List.getElem?_toArray, List.getElem?_cons_succ, List.getElem?_cons_zero, Option.getD_some])))
      go_ret
      exact RetB.mk rfl HH.out.below
/-- A slice of slices of bytes that is read. -/
def Pcs (w : World) (v : Value) (ls : List (List UInt8)) : Prop :=
  ∃ cs, Sl w v 1 ls.length cs ∧ ∀ i, i < ls.length → ∃ u, cs[i]? = some u ∧ Byts w u (ls.getD i [])
section
variable {P : Program} {ops : Array Oper} {rest : List Oper} {a : Act} {dst : Option Tmp} {ty : TypeId} {pos : String} {after : Array Edge} {guard : Option (Nat × Bool)} {w w0 : World} {S : List Nat} {bs : List (Nat × Obj)} {rows : List Row} {Q : Exit → Act → World → Prop}
/-- A byte of the first row is written. -/
theorem wpL_storeRowB {t : TypeId} {b : UInt8} {j : Nat} {ad : Addr} {cap : Nat} {l : List UInt8} {x y : Operand} (hi : (P.info? t).map (·.size) = some 1) (hH : Holds w0 S bs (rowB (some ad) cap l :: rows) w) (hx : a.eval x = .pointer (some (ad.add j))) (hy : a.eval y = byt b) (hj : j < l.length)
    (hg : Region.wanted { dst := dst, op := .store t x y, type := ty, pos := pos, after := after, guard := guard } (yielded ops a.tmps) = true)
    (h : ∀ l' w', l'.length = l.length → l' = l.set j b → Holds w0 S bs (rowB (some ad) cap l' :: rows) w' → wpList P ops Q rest (a.put dst undef) w') :
    wpList P ops Q ({ dst := dst, op := .store t x y, type := ty, pos := pos, after := after, guard := guard } :: rest) a w := by
  have hown := hH.own0
  rcases hown.2 with ⟨hv, _⟩ | ⟨g, cap', cur, hv, hb, hgc, hnc, hm, hs, htake⟩
  · simp at hv
  · simp only [Value.slice.injEq, Option.some.injEq, true_and] at hv
    obtain ⟨rfl, rfl⟩ := hv
    have hadd : (⟨g, 0, none⟩ : Addr).add j = ⟨g, j, none⟩ := by unfold Addr.add; split <;> simp_all
    have hcur : j < cur.size := by omega
    have hst := run_storeCells_at P g j 5 [byt b] 0 cur w hgc (by simp; omega) (by intro u hu; simp at hu; subst hu; rfl)
    simp only [Nat.add_zero, List.length_singleton] at hst
    have hgr : w.grownBy (w.setRow g (cur.toList.take j ++ [byt b] ++ cur.toList.drop (j + 1)).toArray) (some g) :=
      ⟨rfl, rfl, rfl, by simp, fun k _ hk => setRow_other w g k _ (fun e => hk (by rw [e]))⟩
    have hrow : (w.setRow g (cur.toList.take j ++ [byt b] ++ cur.toList.drop (j + 1)).toArray).ownsRow w0.heap.size 5 1 (.slice (some ⟨g, 0, none⟩) l.length cap) l.length ((l.set j b).map byt) := by
      refine ⟨by simp, .inr ⟨g, cap, _, rfl, hb, setRow_heap w g cur _ 5 (0, 0) hgc, hnc, hm, ?_, ?_⟩⟩
      · simp; omega
      · have e : cur.toList.take j ++ [byt b] ++ cur.toList.drop (j + 1) = cur.toList.set j (byt b) := by
          rw [List.set_eq_take_append_cons_drop, if_pos (by simpa using hcur)]; simp
        rw [e, List.toList_toArray, List.take_set, htake, List.map_set]
    have h2 := h (l.set j b) _ (by simp) rfl (by
      have := hH.grownRow hgr (.inl rfl) hrow
      simpa [rowB] using this)
    refine wpList_exskip hg ?_ h2
    have hone : (byt b).cells.toList = [byt b] := rfl
    have hsz : (byt b).cells.size = 1 := rfl
    simp only [execOp, hx, hy, hadd, Instr.storeAt, Instr.sureAddr, storeVar, Sem.run_bind, Sem.run_pure, Result.andThen_ok, run_sizeOf hi, hsz, ne_eq, not_true_eq_false, if_false]
    rw [hone, hst]
    simp [Result.andThen]
theorem wpL_notB {t : TypeId} {b : UInt8} {x : Operand} (hx : a.eval x = byt b)
    (hg : Region.wanted { dst := dst, op := .unOp .xor t x, type := ty, pos := pos, after := after, guard := guard } (yielded ops a.tmps) = true)
    (h : ∀ b', wpList P ops Q rest (a.put dst (byt b')) w) : wpList P ops Q ({ dst := dst, op := .unOp .xor t x, type := ty, pos := pos, after := after, guard := guard } :: rest) a w := by
  have key : ∃ b', (Op.unary .xor (byt b)).run P w = .ok (byt b') w := by
    refine ⟨UInt8.ofNat (BitVec.ofInt IntKind.u8.bits (if IntKind.u8.signed then -1 else IntKind.u8.max) ^^^ BitVec.ofInt IntKind.u8.bits (b.toNat : Int)).toNat, ?_⟩
    show (Op.intBits .xor .u8 (if IntKind.u8.signed then -1 else IntKind.u8.max) (b.toNat : Int)).run P w = _
    simp only [Op.intBits, Sem.run_pure]
    unfold byt
    rw [UInt8.toNat_ofNat', IntKind.wrap_u8]
    congr 2
  obtain ⟨b', hb'⟩ := key
  exact wpList_ex hg (by simp only [execOp, hx, Sem.run_bind, hb', Result.andThen_ok, Sem.run_pure]) (h b')
end
def InvRel (w : World) (bs : List (Nat × Obj)) (n cap : Nat) (ao : Option Addr) (rows : List Row) (i : Value) (wr : World) : Prop :=
  ∃ (k : Nat) (p : List UInt8), k ≤ n ∧ p.length = n ∧ i = .int .i64 k ∧ Holds w [] bs (rowB ao cap p :: rows) wr
def WrRel (w : World) (n : Nat) (g : Nat) (av iv : Value) (wr : World) : Prop :=
  ∃ (k : Nat) (l : List UInt8) (bs : List (Nat × Obj)) (ao : Option Addr) (cap : Nat), k ≤ n ∧ l.length ≤ 500 * k ∧ iv = .int .i64 k ∧ av = .slice ao l.length cap ∧ HashAt bs g l ∧ Holds w [] bs [rowB ao cap l] wr
set_option maxRecDepth 100000 in
set_option maxHeartbeats 4000000 in
theorem law_write (w : World) (v : Value) (ls : List (List UInt8)) (hl : Pcs w v ls) : Calls Try.prog 8 #[v] w (RetB w true) := by
  obtain ⟨cs, hsl, hcs⟩ := hl
  obtain ⟨ao, cap, rfl, hc⟩ := hsl.shape
  obtain ⟨n, hn12⟩ : ∃ n, min ls.length 12 = n := ⟨_, rfl⟩
  have hnl : n ≤ ls.length := by omega
  have hn13 : n ≤ 12 := by omega
  have HS := hid hsl
  have HCS := hid hcs
  have H12 := hid hn12
  clear hsl hcs hn12
  have HH := hid (Holds.init w)
  go_enter Try.func8, Try.ntmps8
  go_wp2_with (first
    | ((first
        | ((with_reducible apply wpL_skip); rfl; skip)
        | ((with_reducible apply wpL_min (r := (n : Int))); rfl; rfl; (exact (by have := H12.out; split <;> omega)); rfl)
        | ((with_reducible apply wpL_sliceTo (j := n) kE62); rfl; rfl; rfl; (exact (by omega)); rfl)
        | (go_at_call 32; (have hcall_ := hid (hNew w _ _ _ _ HH.out)); (with_reducible refine hcall_.out.mono ?_); clear hcall_; rintro e_ w2_ ⟨g1, bs1, rfl, hq_, ha_, -⟩; clear HH; have HH := hid hq_; have H1 := hid ha_; clear hq_ ha_)
        | (go_at_call 39; (first | ((have hcall_ := hid (hLen0 w _ _ _ _ g1 HH.out H1.out)); (with_reducible refine hcall_.out.mono ?_); clear hcall_) | (with_reducible refine (hLen0 w _ _ _ _ g1 HH.out H1.out).mono ?_)); rintro e_ w2_ ⟨rfl, hb_⟩; (have hq_ := HH.out.grow hb_); clear HH; have HH := hid hq_; clear hq_ hb_)
        | (go_at_call 33; (first | ((have hcall_ := hid (hSum w _ _ _ _ g1 [] HH.out H1.out (by simp))); (with_reducible refine hcall_.out.mono ?_); clear hcall_) | (with_reducible refine (hSum w _ _ _ _ g1 [] HH.out H1.out (by simp)).mono ?_)); rintro e_ w2_ ⟨rfl, hb_⟩; (have hq_ := HH.out.grow hb_); clear HH; have HH := hid hq_; clear hq_ hb_)
        | (go_at_call 22; (first | ((have hcall_ := hid (sumR_any _ (.slice none 0 0) [] (Sl.nil _ _) (by simp))); (with_reducible refine hcall_.out.mono ?_); clear hcall_) | (with_reducible refine (sumR_any _ (.slice none 0 0) [] (Sl.nil _ _) (by simp)).mono ?_)); rintro e_ w2_ ⟨rfl, hb_⟩; (have hq_ := HH.out.grow hb_); clear HH; have HH := hid hq_; clear hq_ hb_)
        | ((with_reducible apply wpL_neqA (b := false) (p := sumB []) (q := sumB []) kR24); rfl; rfl; (exact arrNe _); rfl)
        | ((with_reducible apply wpL_nilCheck); rfl; rfl)
        | ((with_reducible apply wpL_load1 (t := 5) kO5 HH.out); rfl; (first | exact .here | exact .there .here | exact .there (.there .here) | exact .there (.there (.there .here)) | exact .there (.there (.there (.there .here))) | exact .there (.there (.there (.there (.there .here)))) | exact .there (.there (.there (.there (.there (.there .here))))) | exact .there (.there (.there (.there (.there (.there (.there .here))))))); rfl; rfl)
        | ((with_reducible apply wpL_load1 (t := 22) kO22 HH.out); rfl; (first | exact .here | exact .there .here | exact .there (.there .here) | exact .there (.there (.there .here)) | exact .there (.there (.there (.there .here))) | exact .there (.there (.there (.there (.there .here)))) | exact .there (.there (.there (.there (.there (.there .here))))) | exact .there (.there (.there (.there (.there (.there (.there .here))))))); rfl; rfl)
        | ((with_reducible apply wpL_len (t := 22) Try.underlying22); rfl; rfl)
        | ((with_reducible apply wpL_len (t := 62) Try.underlying62); rfl; rfl)
        | ((with_reducible apply wpL_store1 (t := 5)); rfl; rfl; rfl; (exact kS5); (exact HH.out); (first | exact .here | exact .there .here | exact .there (.there .here) | exact .there (.there (.there .here)) | exact .there (.there (.there (.there .here))) | exact .there (.there (.there (.there (.there .here)))) | exact .there (.there (.there (.there (.there (.there .here))))) | exact .there (.there (.there (.there (.there (.there (.there .here))))))); rfl; (first | exact Nat.le_of_ble_eq_true rfl | (simp; done) | omega); rfl; (intro w_ hq_; (try simp only [List.set_cons_zero, List.set_cons_succ] at hq_); clear HH; have HH := hid hq_; clear hq_))
        | ((with_reducible apply wpL_move); rfl; rfl)
        | ((with_reducible apply wpL_assign); rfl; rfl)
        | ((with_reducible apply wpL_pick); rfl; rfl; rfl)
        | ((with_reducible apply wpL_not); rfl; rfl)
        | ((with_reducible apply wpL_cmp (b := true)); rfl; rfl; rfl; (first | rfl | assumption | (simp only [cmpB, decide_eq_true_eq, decide_eq_false_iff_not, beq_iff_eq, bne_iff_ne, ne_eq, beq_eq_false_iff_ne, bne_eq_false_iff_eq, gt_iff_lt, ge_iff_le]; omega) | (simp; omega)); rfl)
        | ((with_reducible apply wpL_cmp (b := false)); rfl; rfl; rfl; (first | rfl | assumption | (simp only [cmpB, decide_eq_true_eq, decide_eq_false_iff_not, beq_iff_eq, bne_iff_ne, ne_eq, beq_eq_false_iff_ne, bne_eq_false_iff_eq, gt_iff_lt, ge_iff_le]; omega) | (simp; omega)); rfl)
        | ((with_reducible apply wpL_cmp); rfl; rfl; rfl; rfl; rfl)
        | ((with_reducible apply wpL_arith); rfl; rfl; rfl; (exact IntWalk.i64_in _ (by (try simp only [arithI]); omega)); rfl)); (try simp only [arithI, Act.put, Act.eval, List.setIfInBounds_toArray, List.set_cons_succ, List.set_cons_zero, Array.getD_eq_getD_getElem?, List.getElem?_toArray, List.getElem?_cons_succ, List.getElem?_cons_zero, Option.getD_some])))
  go_loopw [4, 5] (WrRel w n g1) (fun _ i _ => n - (intOf i).toNat)
  case atStart => exact ⟨0, [], bs1, none, 0, by omega, by simp, rfl, rfl, H1.out, HH.out.addNil 5 1⟩
  case round =>
    obtain ⟨k, l, bs, ao1, cap1, hk, hl, rfl, rfl, ha, hr⟩ := hrel
    clear HH H1
    have HH := hid hr
    have H1 := hid ha
    clear hr ha
    by_cases hlt : k < n
    · obtain ⟨u, hu, hbu⟩ := HCS.out k (by omega)
      obtain ⟨au, cu, rfl, _⟩ := hbu.shape
      generalize ls.getD k [] = p0 at *
      have HU := hid hu
      have HBU := hid hbu
      have LC := cutB_len p0
      clear hu hbu
      obtain ⟨x, hx⟩ : ∃ x, cutB p0 = x := ⟨_, rfl⟩
      have HX := hid hx
      rw [hx] at LC
      clear hx
      have N0 := hid (show ([] : List UInt8) ++ x = x from rfl)
      obtain ⟨lx, hlx⟩ : ∃ lx, l ++ x = lx := ⟨_, rfl⟩
      have HLX := hid hlx
      have hlxn : lx.length = l.length + x.length := by rw [← hlx, List.length_append]
      have hlx5 : lx.length ≤ 500 * (k + 1) := by omega
      have HLN := hid hlxn
      clear hlx hlxn
      obtain ⟨ad, cap', e⟩ := HS.out.some (by omega)
      cases e
      go_wp2_with (first
        | ((first
            | ((with_reducible apply wpL_skip); rfl; skip)
            | ((with_reducible apply wpL_buildB [] (dst := some 33)); rfl; rfl; (exact (by omega)); (exact HH.out); rfl; (intro g_ w_ hq_; clear HH; have HH := hid hq_; clear hq_))
            | ((with_reducible apply wpL_idxB (j := k) kE62); rfl; rfl; rfl; (exact hlt); rfl)
            | ((with_reducible apply wpL_loadAt (dst := some 37) (v := .slice au p0.length cu) kO22); (have hc_ := (HH.out.sl HS.out).cell k (.slice au p0.length cu) HU.out; exact hc_); rfl; rfl)
            | (go_at_call 19; (with_reducible refine (cut_any _ _ _ p0 HBU.out).mono ?_); rw [HX.out]; rintro e_ w2_ ⟨ao2, cap2, rfl, hc1_, hb_⟩; (have hq_ := HH.out.grow hb_); clear HH; have HH := hid hq_; have XC := hid hc1_; clear hq_ hb_ hc1_)
            | ((with_reducible apply wpL_appendB (dst := some 39) (l := []) (l2 := x) HH.out (HH.out.sl XC.out)); rfl; rfl; (exact (by simp; omega)); rfl; rfl; rfl; (rw [N0.out]; intro aop capp w_ hq_; clear HH; have HH := hid hq_; clear hq_))
            | ((with_reducible apply wpL_appendB (dst := some 42) (l := l) (l2 := x) HH.out.swap HH.out.sl0); rfl; rfl; (exact (by omega)); rfl; rfl; rfl; (rw [HLX.out]; intro aol capl w_ hq_; clear HH; have HH := hid hq_.swap; clear hq_))
            | (go_at_call 34; (have hcall_ := hid (hWrite w _ _ _ _ g1 _ l x HH.out H1.out HH.out.sl0 (by omega))); (with_reducible refine hcall_.out.mono ?_); clear hcall_; rw [HLX.out]; rintro e_ w2_ ⟨rfl, bs2, hq_, ha_, -⟩; clear HH H1; have HH := hid hq_; have H1 := hid ha_; clear hq_ ha_)
            | ((with_reducible apply wpL_nilCheck); rfl; rfl)
            | ((with_reducible apply wpL_load1 (t := 5) kO5 HH.out); rfl; (first | exact .here | exact .there .here | exact .there (.there .here) | exact .there (.there (.there .here)) | exact .there (.there (.there (.there .here))) | exact .there (.there (.there (.there (.there .here)))) | exact .there (.there (.there (.there (.there (.there .here))))) | exact .there (.there (.there (.there (.there (.there (.there .here))))))); rfl; rfl)
            | ((with_reducible apply wpL_load1 (t := 22) kO22 HH.out); rfl; (first | exact .here | exact .there .here | exact .there (.there .here) | exact .there (.there (.there .here)) | exact .there (.there (.there (.there .here))) | exact .there (.there (.there (.there (.there .here)))) | exact .there (.there (.there (.there (.there (.there .here))))) | exact .there (.there (.there (.there (.there (.there (.there .here))))))); rfl; rfl)
            | ((with_reducible apply wpL_len (t := 22) Try.underlying22); rfl; rfl)
            | ((with_reducible apply wpL_len (t := 62) Try.underlying62); rfl; rfl)
            | ((with_reducible apply wpL_store1 (t := 5)); rfl; rfl; rfl; (exact kS5); (exact HH.out); (first | exact .here | exact .there .here | exact .there (.there .here) | exact .there (.there (.there .here)) | exact .there (.there (.there (.there .here))) | exact .there (.there (.there (.there (.there .here)))) | exact .there (.there (.there (.there (.there (.there .here))))) | exact .there (.there (.there (.there (.there (.there (.there .here))))))); rfl; (first | exact Nat.le_of_ble_eq_true rfl | (simp; done) | omega); rfl; (intro w_ hq_; (try simp only [List.set_cons_zero, List.set_cons_succ] at hq_); clear HH; have HH := hid hq_; clear hq_))
            | ((with_reducible apply wpL_move); rfl; rfl)
            | ((with_reducible apply wpL_assign); rfl; rfl)
            | ((with_reducible apply wpL_pick); rfl; rfl; rfl)
            | ((with_reducible apply wpL_not); rfl; rfl)
            | ((with_reducible apply wpL_cmp (b := true)); rfl; rfl; rfl; (first | rfl | assumption | (simp only [cmpB, decide_eq_true_eq, decide_eq_false_iff_not, beq_iff_eq, bne_iff_ne, ne_eq, beq_eq_false_iff_ne, bne_eq_false_iff_eq, gt_iff_lt, ge_iff_le]; omega) | (simp; omega)); rfl)
            | ((with_reducible apply wpL_cmp (b := false)); rfl; rfl; rfl; (first | rfl | assumption | (simp only [cmpB, decide_eq_true_eq, decide_eq_false_iff_not, beq_iff_eq, bne_iff_ne, ne_eq, beq_eq_false_iff_ne, bne_eq_false_iff_eq, gt_iff_lt, ge_iff_le]; omega) | (simp; omega)); rfl)
            | ((with_reducible apply wpL_cmp); rfl; rfl; rfl; rfl; rfl)
            | ((with_reducible apply wpL_arith); rfl; rfl; rfl; (exact IntWalk.i64_in _ (by (try simp only [arithI]); omega)); rfl)); (try simp only [arithI, Act.put, Act.eval, List.setIfInBounds_toArray, List.set_cons_succ, List.set_cons_zero, Array.getD_eq_getD_getElem?, List.getElem?_toArray, List.getElem?_cons_succ, List.getElem?_cons_zero, Option.getD_some])))
      obtain ⟨wo, rfl⟩ : ∃ wo : World, wo = wr := ⟨_, rfl⟩
      go_loopw [7] (InvRel w bs2 x.length capp aop [rowB aol capl lx]) (fun i _ => x.length - (intOf i).toNat)
      case atStart => exact ⟨0, x, by omega, rfl, rfl, HH.out⟩
      case round =>
        obtain ⟨m, p, hm, hp, rfl, hr⟩ := hrel
        clear HH
        have HH := hid hr
        have HP := hid hp
        clear hr
        by_cases hml : m < x.length
        · have hmp : m < p.length := by omega
          clear hp
          obtain ⟨adp, capq, e⟩ := HH.out.sl0.some (by omega)
          cases e
          go_wp2_with (first
            | ((first
                | ((with_reducible apply wpL_skip); rfl; skip)
                | ((with_reducible apply wpL_idxB (j := m) kE22); rfl; rfl; rfl; (exact (by omega)); rfl)
                | ((with_reducible apply wpL_loadAt (dst := some 58) (v := byt (p.getD m 0)) kO5); (have hc_ := HH.out.sl0.cell m (byt (p.getD m 0)) (by simp [hmp]); exact hc_); rfl; rfl)
                | ((with_reducible apply wpL_notB (b := p.getD m 0)); rfl; rfl; (intro b'))
                | ((with_reducible apply wpL_storeRowB (b := b') (j := m) (l := p) kS5 HH.out); rfl; rfl; (exact hmp); rfl; (intro p' w_ hpl_ hpe_ hq_; clear HH; have HH := hid hq_; have HPL := hid hpl_; clear hq_ hpl_ hpe_))
                | ((with_reducible apply wpL_nilCheck); rfl; rfl)
                | ((with_reducible apply wpL_load1 (t := 5) kO5 HH.out); rfl; (first | exact .here | exact .there .here | exact .there (.there .here) | exact .there (.there (.there .here)) | exact .there (.there (.there (.there .here))) | exact .there (.there (.there (.there (.there .here)))) | exact .there (.there (.there (.there (.there (.there .here))))) | exact .there (.there (.there (.there (.there (.there (.there .here))))))); rfl; rfl)
                | ((with_reducible apply wpL_load1 (t := 22) kO22 HH.out); rfl; (first | exact .here | exact .there .here | exact .there (.there .here) | exact .there (.there (.there .here)) | exact .there (.there (.there (.there .here))) | exact .there (.there (.there (.there (.there .here)))) | exact .there (.there (.there (.there (.there (.there .here))))) | exact .there (.there (.there (.there (.there (.there (.there .here))))))); rfl; rfl)
                | ((with_reducible apply wpL_len (t := 22) Try.underlying22); rfl; rfl)
                | ((with_reducible apply wpL_len (t := 62) Try.underlying62); rfl; rfl)
                | ((with_reducible apply wpL_store1 (t := 5)); rfl; rfl; rfl; (exact kS5); (exact HH.out); (first | exact .here | exact .there .here | exact .there (.there .here) | exact .there (.there (.there .here)) | exact .there (.there (.there (.there .here))) | exact .there (.there (.there (.there (.there .here)))) | exact .there (.there (.there (.there (.there (.there .here))))) | exact .there (.there (.there (.there (.there (.there (.there .here))))))); rfl; (first | exact Nat.le_of_ble_eq_true rfl | (simp; done) | omega); rfl; (intro w_ hq_; (try simp only [List.set_cons_zero, List.set_cons_succ] at hq_); clear HH; have HH := hid hq_; clear hq_))
                | ((with_reducible apply wpL_move); rfl; rfl)
                | ((with_reducible apply wpL_assign); rfl; rfl)
                | ((with_reducible apply wpL_pick); rfl; rfl; rfl)
                | ((with_reducible apply wpL_not); rfl; rfl)
                | ((with_reducible apply wpL_cmp (b := true)); rfl; rfl; rfl; (first | rfl | assumption | (simp only [cmpB, decide_eq_true_eq, decide_eq_false_iff_not, beq_iff_eq, bne_iff_ne, ne_eq, beq_eq_false_iff_ne, bne_eq_false_iff_eq, gt_iff_lt, ge_iff_le]; omega) | (simp; omega)); rfl)
                | ((with_reducible apply wpL_cmp (b := false)); rfl; rfl; rfl; (first | rfl | assumption | (simp only [cmpB, decide_eq_true_eq, decide_eq_false_iff_not, beq_iff_eq, bne_iff_ne, ne_eq, beq_eq_false_iff_ne, bne_eq_false_iff_eq, gt_iff_lt, ge_iff_le]; omega) | (simp; omega)); rfl)
                | ((with_reducible apply wpL_cmp); rfl; rfl; rfl; rfl; rfl)
                | ((with_reducible apply wpL_arith); rfl; rfl; rfl; (exact IntWalk.i64_in _ (by (try simp only [arithI]); omega)); rfl)); (try simp only [arithI, Act.put, Act.eval, List.setIfInBounds_toArray, List.set_cons_succ, List.set_cons_zero, Array.getD_eq_getD_getElem?, List.getElem?_toArray, List.getElem?_cons_succ, List.getElem?_cons_zero, Option.getD_some])))
          go_roundw
          case rel => exact ⟨m + 1, p', by omega, by rw [HPL.out, HP.out], by go_num, HH.out⟩
          case measure => simp [intOf]; omega
        · have HH2 := hid HH.out.dropRow
          clear HH
          have HH := HH2
          clear HH2
          go_wp2_with (first
            | ((first
                | ((with_reducible apply wpL_skip); rfl; skip)
                | (go_at_call 39; (have hcall_ := hid (hLen w _ _ _ _ g1 lx HH.out H1.out)); (with_reducible refine hcall_.out.mono ?_); clear hcall_; rintro e_ w2_ ⟨rfl, hb_⟩; (have hq_ := HH.out.grow hb_); clear HH; have HH := hid hq_; clear hq_ hb_)
                | (go_at_call 33; (first | ((have hcall_ := hid (hSum w _ _ _ _ g1 lx HH.out H1.out (by omega))); (with_reducible refine hcall_.out.mono ?_); clear hcall_) | (with_reducible refine (hSum w _ _ _ _ g1 lx HH.out H1.out (by omega)).mono ?_)); rintro e_ w2_ ⟨rfl, hb_⟩; (have hq_ := HH.out.grow hb_); clear HH; have HH := hid hq_; clear hq_ hb_)
                | (go_at_call 22; (first | ((have hcall_ := hid (sumR_any _ _ lx HH.out.sl0 (by omega))); (with_reducible refine hcall_.out.mono ?_); clear hcall_) | (with_reducible refine (sumR_any _ _ lx HH.out.sl0 (by omega)).mono ?_)); rintro e_ w2_ ⟨rfl, hb_⟩; (have hq_ := HH.out.grow hb_); clear HH; have HH := hid hq_; clear hq_ hb_)
                | ((with_reducible apply wpL_neqA (b := false) (p := sumB lx) (q := sumB lx) kR24); rfl; rfl; (exact arrNe _); rfl)
                | ((with_reducible apply wpL_neqA (b := false) (p := sumB lx) (q := sumB lx) kR25); rfl; rfl; (exact arrNe _); rfl)
                | ((with_reducible apply wpL_nilCheck); rfl; rfl)
                | ((with_reducible apply wpL_load1 (t := 5) kO5 HH.out); rfl; (first | exact .here | exact .there .here | exact .there (.there .here) | exact .there (.there (.there .here)) | exact .there (.there (.there (.there .here))) | exact .there (.there (.there (.there (.there .here)))) | exact .there (.there (.there (.there (.there (.there .here))))) | exact .there (.there (.there (.there (.there (.there (.there .here))))))); rfl; rfl)
                | ((with_reducible apply wpL_load1 (t := 22) kO22 HH.out); rfl; (first | exact .here | exact .there .here | exact .there (.there .here) | exact .there (.there (.there .here)) | exact .there (.there (.there (.there .here))) | exact .there (.there (.there (.there (.there .here)))) | exact .there (.there (.there (.there (.there (.there .here))))) | exact .there (.there (.there (.there (.there (.there (.there .here))))))); rfl; rfl)
                | ((with_reducible apply wpL_len (t := 22) Try.underlying22); rfl; rfl)
                | ((with_reducible apply wpL_len (t := 62) Try.underlying62); rfl; rfl)
                | ((with_reducible apply wpL_store1 (t := 5)); rfl; rfl; rfl; (exact kS5); (exact HH.out); (first | exact .here | exact .there .here | exact .there (.there .here) | exact .there (.there (.there .here)) | exact .there (.there (.there (.there .here))) | exact .there (.there (.there (.there (.there .here)))) | exact .there (.there (.there (.there (.there (.there .here))))) | exact .there (.there (.there (.there (.there (.there (.there .here))))))); rfl; (first | exact Nat.le_of_ble_eq_true rfl | (simp; done) | omega); rfl; (intro w_ hq_; (try simp only [List.set_cons_zero, List.set_cons_succ] at hq_); clear HH; have HH := hid hq_; clear hq_))
                | ((with_reducible apply wpL_move); rfl; rfl)
                | ((with_reducible apply wpL_assign); rfl; rfl)
                | ((with_reducible apply wpL_pick); rfl; rfl; rfl)
                | ((with_reducible apply wpL_not); rfl; rfl)
                | ((with_reducible apply wpL_cmp (b := true)); rfl; rfl; rfl; (first | rfl | assumption | (simp only [cmpB, decide_eq_true_eq, decide_eq_false_iff_not, beq_iff_eq, bne_iff_ne, ne_eq, beq_eq_false_iff_ne, bne_eq_false_iff_eq, gt_iff_lt, ge_iff_le]; omega) | (simp; omega)); rfl)
                | ((with_reducible apply wpL_cmp (b := false)); rfl; rfl; rfl; (first | rfl | assumption | (simp only [cmpB, decide_eq_true_eq, decide_eq_false_iff_not, beq_iff_eq, bne_iff_ne, ne_eq, beq_eq_false_iff_ne, bne_eq_false_iff_eq, gt_iff_lt, ge_iff_le]; omega) | (simp; omega)); rfl)
                | ((with_reducible apply wpL_cmp); rfl; rfl; rfl; rfl; rfl)
                | ((with_reducible apply wpL_arith); rfl; rfl; rfl; (exact IntWalk.i64_in _ (by (try simp only [arithI]); omega)); rfl)); (try simp only [arithI, Act.put, Act.eval, List.setIfInBounds_toArray, List.set_cons_succ, List.set_cons_zero, Array.getD_eq_getD_getElem?, List.getElem?_toArray, List.getElem?_cons_succ, List.getElem?_cons_zero, Option.getD_some])))
          go_roundw
          case rel => exact ⟨k + 1, lx, bs2, _, _, by omega, hlx5, by go_num, rfl, H1.out, HH.out⟩
          case measure => simp [intOf]; omega
    · skip
      go_wp2_with (first
        | ((first
            | ((with_reducible apply wpL_skip); rfl; skip)
            | (go_at_call 21; (first | ((have hcall_ := hid (known_any _)); (with_reducible refine hcall_.out.mono ?_); clear hcall_) | (with_reducible refine (known_any _).mono ?_)); rintro e_ w2_ ⟨rfl, hb_⟩; (have hq_ := HH.out.grow hb_); clear HH; have HH := hid hq_; clear hq_ hb_)
            | ((with_reducible apply wpL_nilCheck); rfl; rfl)
            | ((with_reducible apply wpL_load1 (t := 5) kO5 HH.out); rfl; (first | exact .here | exact .there .here | exact .there (.there .here) | exact .there (.there (.there .here)) | exact .there (.there (.there (.there .here))) | exact .there (.there (.there (.there (.there .here)))) | exact .there (.there (.there (.there (.there (.there .here))))) | exact .there (.there (.there (.there (.there (.there (.there .here))))))); rfl; rfl)
            | ((with_reducible apply wpL_load1 (t := 22) kO22 HH.out); rfl; (first | exact .here | exact .there .here | exact .there (.there .here) | exact .there (.there (.there .here)) | exact .there (.there (.there (.there .here))) | exact .there (.there (.there (.there (.there .here)))) | exact .there (.there (.there (.there (.there (.there .here))))) | exact .there (.there (.there (.there (.there (.there (.there .here))))))); rfl; rfl)
            | ((with_reducible apply wpL_len (t := 22) Try.underlying22); rfl; rfl)
            | ((with_reducible apply wpL_len (t := 62) Try.underlying62); rfl; rfl)
            | ((with_reducible apply wpL_store1 (t := 5)); rfl; rfl; rfl; (exact kS5); (exact HH.out); (first | exact .here | exact .there .here | exact .there (.there .here) | exact .there (.there (.there .here)) | exact .there (.there (.there (.there .here))) | exact .there (.there (.there (.there (.there .here)))) | exact .there (.there (.there (.there (.there (.there .here))))) | exact .there (.there (.there (.there (.there (.there (.there .here))))))); rfl; (first | exact Nat.le_of_ble_eq_true rfl | (simp; done) | omega); rfl; (intro w_ hq_; (try simp only [List.set_cons_zero, List.set_cons_succ] at hq_); clear HH; have HH := hid hq_; clear hq_))
            | ((with_reducible apply wpL_move); rfl; rfl)
            | ((with_reducible apply wpL_assign); rfl; rfl)
            | ((with_reducible apply wpL_pick); rfl; rfl; rfl)
            | ((with_reducible apply wpL_not); rfl; rfl)
            | ((with_reducible apply wpL_cmp (b := true)); rfl; rfl; rfl; (first | rfl | assumption | (simp only [cmpB, decide_eq_true_eq, decide_eq_false_iff_not, beq_iff_eq, bne_iff_ne, ne_eq, beq_eq_false_iff_ne, bne_eq_false_iff_eq, gt_iff_lt, ge_iff_le]; omega) | (simp; omega)); rfl)
            | ((with_reducible apply wpL_cmp (b := false)); rfl; rfl; rfl; (first | rfl | assumption | (simp only [cmpB, decide_eq_true_eq, decide_eq_false_iff_not, beq_iff_eq, bne_iff_ne, ne_eq, beq_eq_false_iff_ne, bne_eq_false_iff_eq, gt_iff_lt, ge_iff_le]; omega) | (simp; omega)); rfl)
            | ((with_reducible apply wpL_cmp); rfl; rfl; rfl; rfl; rfl)
            | ((with_reducible apply wpL_arith); rfl; rfl; rfl; (exact IntWalk.i64_in _ (by (try simp only [arithI]); omega)); rfl)); (try simp only [arithI, Act.put, Act.eval, List.setIfInBounds_toArray, List.set_cons_succ, List.set_cons_zero, Array.getD_eq_getD_getElem?, List.getElem?_toArray, List.getElem?_cons_succ, List.getElem?_cons_zero, Option.getD_some])))
      go_ret
      exact RetB.mk rfl HH.out.below
end Go.Proofs.Ytgkfopodhikckaa
/- From the walks of the laws to their rows: what is alike. No condition. -/
namespace Go.Proofs.Ytgkfopodhikckaa
open Go.ChangeShapes Go.WideShapes Go.ChangeAt Go.RowKit
theorem Try.own : ownKnob Try.prog.godebug = none := by kernel_rfl
theorem Try.laidOut : laidOutB Try.prog = true := by kernel_rfl
theorem cells5 : Try.prog.cellsOf 5 = 1 := by kernel_rfl
theorem bytes5 : Try.prog.bytesOf 5 = 1 := by kernel_rfl
theorem readable_of {ts : List TypeId} (h : (ts.all fun t => Try.prog.readableRec t && decide (t < Try.prog.types.size)) = true) : ∀ t ∈ ts, Try.prog.readableRec t = true ∧ t < Try.prog.types.size := by
  intro t ht
  have := List.all_eq_true.1 h t ht
  simpa using this
theorem open_bslice {H : Type} {enc : TypeId × Value → H} {P : Program} {W : World} {ts e : TypeId} {base : Nat} {fuel : Nat} {v : Value} {x : DataW H × List MemPlace} (hs : P.underlying ts = some (.slice e)) (he : P.underlying e = some (.int .u8))
    (hc1 : P.cellsOf e = 1) (hv : ∃ a len cap, v = .slice a len cap) (h : DataW.trod enc P W base (fun _ => true) true fuel ts v.cells.toList = some x) :
    ∃ l : List UInt8, Sl W v 1 l.length (l.map byt) ∧ (l = [] ∨ ∃ elems spare, x.1 = .slice elems spare ∧ elems.length = l.length) := by
  obtain ⟨ao, len, cap, rfl⟩ := hv
  rcases Deep.open_slice hs h with ⟨hcs, _⟩ | ⟨a, len', cap', m, fu, D, Pl, hcs, _, hle, _, hm, rfl, hx⟩
  · simp [Value.cells] at hcs
    obtain ⟨rfl, rfl, rfl⟩ := hcs
    exact ⟨[], Sl.nil W 1, .inl rfl⟩
  · simp [Value.cells] at hcs
    obtain ⟨rfl, rfl, rfl⟩ := hcs
    simp only [if_true] at hm
    subst hm
    have key : ∀ i, i < len → ∃ b : UInt8, W.cell? (a.add i) = some (byt b) := by
      intro i hi
      obtain ⟨cs', h1, h2⟩ := hx i (by omega)
      obtain ⟨z, hz, _, hw⟩ := DataW.trod_int he h2
      have h0 : (0 : Int) ≤ z ∧ z ≤ 255 := by
        have e1 : IntKind.u8.min = 0 := rfl
        have e2 : IntKind.u8.max = 255 := rfl
        simp only [Lit.wf, Bool.and_eq_true, decide_eq_true_eq] at hw
        omega
      obtain ⟨_, _, h3⟩ := World.cells?_some h1
      rw [hc1, Nat.mul_one] at h3
      have h4 := h3 0 (by omega)
      rw [Deep.add_add, Nat.add_zero, hz] at h4
      refine ⟨UInt8.ofNat z.toNat, ?_⟩
      rw [h4]
      simp only [byt, UInt8.toNat_ofNat', List.getElem?_cons_zero, Option.some.injEq, Value.int.injEq, true_and]
      omega
    obtain ⟨g, hg⟩ := Deep.choose_lt key
    refine ⟨(List.range len).map g, ?_, .inr ⟨_, _, rfl, by simp⟩⟩
    refine ⟨some a, _, by rw [List.length_map, List.length_range], by simpa using hle, by simp, fun j u hu => ⟨a, rfl, ?_⟩⟩
    have hj : j < len := by have := (List.getElem?_eq_some_iff.1 hu).1; simpa using this
    rw [hg j hj, ← hu]
    simp [hj]
set_option maxRecDepth 100000 in
/-- An argument of type []byte. -/
theorem open_bytes22 {H : Type} {enc : TypeId × Value → H} {W : World} {base : Nat} {ts : List TypeId} {ds : List (DataW H)} {j : Nat} {v : Value} {d : DataW H} {p : List MemPlace} (hval : Value.okWide Try.prog W .any base 22 v)
    (h : DataW.Trod enc Try.prog W 0 (fun _ => true) true 22 v d p) (hsz : (DataW.weightsEach Try.prog ts ds).all (· ≤ reachBytes) = true) (ht : ts[j]? = some 22) (hd : ds[j]? = some d) :
    ∃ l : List UInt8, Byts W v l ∧ l.length ≤ 140737488351232 := by
  obtain ⟨fuel, hf⟩ := h
  obtain ⟨l, hl, hlen⟩ := open_bslice Try.underlying22 Try.underlying5 cells5 (okWide_slice Try.underlying22 hval) hf
  refine ⟨l, hl, ?_⟩
  rcases hlen with rfl | ⟨elems, spare, e, he⟩
  · simp
  · simp only at e
    subst e
    have := sized_slice hsz ht hd Try.underlying22
    rw [bytes5, he] at this
    unfold reachBytes at this
    have h2 : l.length * 1 ≤ (l.length + spare.length) * 1 := Nat.mul_le_mul_right _ (Nat.le_add_right _ _)
    omega
set_option maxRecDepth 100000 in
/-- An argument that is an array of bytes. -/
theorem open_arrA {H : Type} {enc : TypeId × Value → H} {W : World} {base : Nat} {n : Nat} {t : TypeId} {v : Value} {d : DataW H} {p : List MemPlace} (ht : Try.prog.underlying t = some (.array n 5)) (hc : Try.prog.cellsOf t = n) (hval : Value.okWide Try.prog W .any base t v)
    (h : DataW.Trod enc Try.prog W 0 (fun _ => true) true t v d p) : ∃ x : Arr n, v = x.val := by
  obtain ⟨fuel, hf⟩ := h
  obtain ⟨x, hx⟩ := open_bytes ht Try.underlying5 hc cells5 hf
  simp only [Value.okWide, ht] at hval
  obtain ⟨cs, rfl, _⟩ := hval
  refine ⟨x, ?_⟩
  simp only [Value.cells] at hx
  unfold Arr.val
  rw [← hx, Array.toArray_toList]
set_option maxRecDepth 100000 in
/-- An argument of type [][]byte. -/
theorem open_pcs {H : Type} {enc : TypeId × Value → H} {W : World} {base : Nat} {v : Value} {d : DataW H} {p : List MemPlace} (hval : Value.okWide Try.prog W .any base 62 v)
    (h : DataW.Trod enc Try.prog W 0 (fun _ => true) true 62 v d p) : ∃ ls : List (List UInt8), Pcs W v ls := by
  obtain ⟨fuel, hf⟩ := h
  obtain ⟨ao, n, c, rfl⟩ := okWide_slice Try.underlying62 hval
  rcases Deep.open_int_rows Try.underlying62 Try.underlying22 Try.underlying5 (by kernel_rfl) cells5 hf with ⟨hcs, _⟩ | ⟨a, len, cap, A, L, C, Z, hcs, _, hle, _, _, hr⟩
  · simp [Value.cells] at hcs
    obtain ⟨rfl, rfl, rfl⟩ := hcs
    exact ⟨[], [], Sl.nil W 1, fun i hi => by simp at hi⟩
  · simp [Value.cells] at hcs
    obtain ⟨rfl, rfl, rfl⟩ := hcs
    have key : ∀ r, r < n → ∃ l : List UInt8, l.length = L r ∧ Byts W (.slice (A r) (L r) (C r)) l := by
      intro r hlt
      obtain ⟨_, h2, _, h4, h5, h6, h7⟩ := hr r (by omega)
      refine ⟨((Z r).take (L r)).map fun z => UInt8.ofNat z.toNat, by simp; omega, _, _, by rw [show (((Z r).take (L r)).map fun z => UInt8.ofNat z.toNat).length = L r by simp; omega], by simp; omega, by simp, fun j u hu => ?_⟩
      have hj : j < L r := by have := (List.getElem?_eq_some_iff.1 hu).1; simp at this; omega
      cases hA : A r with
      | none => have := h6 hA; omega
      | some a' =>
        refine ⟨a', rfl, ?_⟩
        rw [(h7 a' hA).2 j (by omega), ← hu]
        have hz : j < (Z r).length := by omega
        have hw := h5 _ (List.getElem_mem hz)
        have h0 : (0 : Int) ≤ (Z r)[j] ∧ (Z r)[j] ≤ 255 := by
          have e1 : IntKind.u8.min = 0 := rfl
          have e2 : IntKind.u8.max = 255 := rfl
          simp only [Lit.wf, Bool.and_eq_true, decide_eq_true_eq] at hw
          omega
        simp only [List.getElem?_map, List.getElem?_take, if_pos hj, List.getElem?_eq_getElem hz, Option.map_some, List.getD_eq_getElem?_getD, Option.getD_some, byt, UInt8.toNat_ofNat', Option.some.injEq, Value.int.injEq, true_and]
        omega
    have : Inhabited (List UInt8) := ⟨[]⟩
    obtain ⟨g, hg⟩ := Deep.choose_lt key
    refine ⟨(List.range n).map g, (List.range n).map fun r => .slice (A r) (L r) (C r), ⟨some a, c, by simp, by simpa using hle, by simp, fun j u hu => ⟨a, rfl, ?_⟩⟩, fun i hi => ?_⟩
    · have hj : j < n := by have := (List.getElem?_eq_some_iff.1 hu).1; simpa using this
      rw [(hr j (by omega)).1, ← hu]
      simp [hj]
    · have hi' : i < n := by simpa using hi
      refine ⟨.slice (A i) (L i) (C i), by simp [hi'], ?_⟩
      have := (hg i hi').2
      have e : ((List.range n).map g).getD i [] = g i := by simp [List.getD, hi']
      rw [e]
      exact this
/-- An argument that is a byte. -/
theorem byte_of {c : Int} (h : (Lit.int .u8 c).wf = true) : Value.int .u8 c = byt (UInt8.ofNat c.toNat) := by
  have e1 : IntKind.u8.min = 0 := rfl
  have e2 : IntKind.u8.max = 255 := rfl
  simp only [Lit.wf, Bool.and_eq_true, decide_eq_true_eq] at h
  simp only [byt, UInt8.toNat_ofNat', Value.int.injEq, true_and]
  omega
theorem str_of (s : ByteArray) : Value.string s = str s.data.toList := by
  show Value.string s = .string ⟨s.data.toList.toArray⟩
  simp
end Go.Proofs.Ytgkfopodhikckaa
/- Rows of arrays: lists of nodes, of identities. No condition. -/
namespace Go.Proofs.Ytgkfopodhikckaa
open Go.RowKit
/-- A row of arrays of the call's own. -/
@[reducible] def rowA {n : Nat} (e : TypeId) (ao : Option Addr) (cap : Nat) (l : List (Arr n)) : Row := ⟨.slice ao l.length cap, e, n, l.length, flat l⟩
/-- A slice of arrays that is read. -/
abbrev Arrs {n : Nat} (w : World) (v : Value) (l : List (Arr n)) : Prop := Sl w v n l.length (flat l)
theorem Arrs.of {m : Nat} {w : World} {v : Value} {n : Nat} {l : List (Arr m)} {cs : List Value} (h : Sl w v m n cs) (hn : n = l.length) (hc : cs = flat l) : Arrs w v l := by subst hn hc; exact h
theorem Arrs.get {n : Nat} {w : World} {a : Addr} {cap : Nat} {l : List (Arr n)} (h : Arrs w (.slice (some a) l.length cap) l) (k : Nat) (hk : k < l.length) : ∀ j u, (l[k]).cells[j]? = some u → w.cell? ((a.add (k * n)).add j) = some u := by
  intro j u hu
  have hj : j < n := by
    have := (List.getElem?_eq_some_iff.1 hu).1
    rwa [Arr.len] at this
  have h1 := h.cell (k * n + j) u (by rw [flat_get l k hk j hj]; exact hu)
  have e : (a.add (k * n)).add j = a.add (k * n + j) := by
    unfold Addr.add; split <;> split <;> simp_all <;> omega
  rw [e]; exact h1
theorem Arrs.take {m : Nat} {w : World} {ao : Option Addr} {cap : Nat} {l : List (Arr m)} {j : Nat} (h : Arrs w (.slice ao l.length cap) l) (hj : j ≤ l.length) : Arrs w (.slice ao j cap) (l.take j) := by
  have h1 := Sl.take h hj
  exact Arrs.of h1 (by rw [List.length_take]; omega) (flat_take l j)
section
variable {P : Program} {w w0 : World} {S : List Nat} {bs : List (Nat × Obj)} {rows : List Row} {ops : Array Oper} {rest : List Oper} {a : Act} {dst : Option Tmp} {ty : TypeId} {pos : String} {after : Array Edge} {guard : Option (Nat × Bool)} {Q : Exit → Act → World → Prop}
theorem wpL_buildA {n : Nat} {t e : TypeId} {bytes : Nat} (hE : Elem P t e n bytes) (x : Arr n) (hn : n ≤ 16777216) {parts : Array (Nat × Operand)} (hp : (parts.toList.map fun p => (p.1, a.eval p.2)) = [(0, x.val)]) (hH : Holds w0 S bs rows w)
    (hg : Region.wanted { dst := dst, op := .buildSlice t 1 parts, type := ty, pos := pos, after := after, guard := guard } (yielded ops a.tmps) = true)
    (h : ∀ g w', Holds w0 S bs (rowA e (some ⟨g, 0, none⟩) 1 [x] :: rows) w' → wpList P ops Q rest (a.put dst (.slice (some ⟨g, 0, none⟩) 1 1)) w') :
    wpList P ops Q ({ dst := dst, op := .buildSlice t 1 parts, type := ty, pos := pos, after := after, guard := guard } :: rest) a w :=
  wpList_buildArr hE [x] hH rfl hp (by omega) hg h
theorem wpL_appendA {k : Nat} {t e : TypeId} {bytes : Nat} {ao ax : Option Addr} {ca cx n m : Nat} {l l2 r : List (Arr k)} (hE : Elem P t e k bytes) (hH : Holds w0 S bs (⟨.slice ao n ca, e, k, n, flat l⟩ :: rows) w) (hx : Sl w (.slice ax m cx) k m (flat l2)) (hr : l ++ l2 = r) (hn : n = l.length) (hm : m = l2.length) (hb : (l.length + l2.length) * bytes ≤ 140737488355328) {s y : Operand} (hs : a.eval s = .slice ao n ca) (hy : a.eval y = .slice ax m cx)
    (hg : Region.wanted { dst := dst, op := .call { callee := .builtin .append, args := #[s, y], argTypes := #[t, t] }, type := ty, pos := pos, after := after, guard := guard } (yielded ops a.tmps) = true)
    (h : ∀ ao cap w', Holds w0 S bs (rowA e ao cap r :: rows) w' → wpList P ops Q rest (a.put dst (.slice ao r.length cap)) w') :
    wpList P ops Q ({ dst := dst, op := .call { callee := .builtin .append, args := #[s, y], argTypes := #[t, t] }, type := ty, pos := pos, after := after, guard := guard } :: rest) a w := by
  subst hn hm hr
  refine wpList_append hE hH hx (flat_cell1 _) hb hs hy hg fun ao cap w' h' => ?_
  have := h ao cap w' (by simpa only [rowA, List.length_append, flat_append] using h')
  rwa [List.length_append] at this
end
end Go.Proofs.Ytgkfopodhikckaa
/- Rules for merkle: an element of a list of arrays is read, a byte of an array variable is written, numbers cut to bytes and words. No condition. -/
namespace Go.Proofs.Ytgkfopodhikckaa
open Go.RowKit
section
variable {P : Program} {w0 w : World} {S : List Nat} {bs bs' : List (Nat × Obj)} {rows : List Row} {ops : Array Oper} {rest : List Oper} {a : Act} {Q : Exit → Act → World → Prop} {C : World → Prop} {K : Act → Prop} {dst : Option Tmp} {ty : TypeId} {pos : String} {after : Array Edge} {guard : Option (Nat × Bool)}
/-- An array of bytes that lies somewhere is read. -/
theorem wpL_loadEl {t : TypeId} {n : Nat} {v : Arr n} {ad : Addr} (hA : AggT P t n) (hc : ∀ j u, v.cells[j]? = some u → w.cell? (ad.add j) = some u) {x : Operand} (hx : a.eval x = .pointer (some ad))
    (hg : Region.wanted { dst := dst, op := .load t x, type := ty, pos := pos, after := after, guard := guard } (yielded ops a.tmps) = true)
    (h : wpList P ops Q rest (a.put dst v.val) w) : wpList P ops Q ({ dst := dst, op := .load t x, type := ty, pos := pos, after := after, guard := guard } :: rest) a w :=
  wpList_load_agg hA (Arr.len v) hc hx hg h
theorem wpQ_loadEl {t : TypeId} {n : Nat} {v : Arr n} {ad : Addr} (hA : AggT P t n) (hc : ∀ w, C w → ∀ j u, v.cells[j]? = some u → w.cell? (ad.add j) = some u) {x : Operand} (hx : a.eval x = .pointer (some ad))
    (hg : Region.wanted { dst := dst, op := .load t x, type := ty, pos := pos, after := after, guard := guard } (yielded ops a.tmps) = true)
    (h : wpQuiet P ops C K rest (a.put dst v.val)) : wpQuiet P ops C K ({ dst := dst, op := .load t x, type := ty, pos := pos, after := after, guard := guard } :: rest) a :=
  wpQ_load_agg hA (Arr.len v) hc hx hg h
/-- A byte of an array variable is written. -/
theorem wpL_storeAB {t e : TypeId} {b : UInt8} {g m : Nat} {l l' : List UInt8} {x y : Operand} (hi : (P.info? t).map (·.size) = some 1) (hH : Holds w0 S bs rows w) (hx : a.eval x = .pointer (some ⟨g, 0 + m, none⟩)) (hy : a.eval y = byt b) (ht : Turn bs g (objC (l.map byt) e) (objC (l'.map byt) e) bs') (hl : l.set m b = l') (hm : m < l.length)
    (hg : Region.wanted { dst := dst, op := .store t x y, type := ty, pos := pos, after := after, guard := guard } (yielded ops a.tmps) = true)
    (h : ∀ w', Holds w0 S bs' rows w' → wpList P ops Q rest (a.put dst undef) w') :
    wpList P ops Q ({ dst := dst, op := .store t x y, type := ty, pos := pos, after := after, guard := guard } :: rest) a w := by
  subst hl
  rw [Nat.zero_add] at hx
  rw [List.map_set] at ht
  exact wpL_store1 hx hy rfl hi hH ht rfl (by simpa using hm) hg h
theorem wpL_indexV0 {t e : TypeId} {n g m : Nat} {q : Int} {k : IntKind} {x i : Operand} (ht : P.underlying t = some (.array n e)) (he : (P.info? e).map (·.size) = some 1) (hx : a.eval x = .pointer (some ⟨g, 0, none⟩)) (hi : a.eval i = .int k q) (hq : q = (m : Int)) (hm : m < n)
    (hg : Region.wanted { dst := dst, op := .indexAddr t x i, type := ty, pos := pos, after := after, guard := guard } (yielded ops a.tmps) = true)
    (h : wpList P ops Q rest (a.put dst (.pointer (some ⟨g, 0 + m, none⟩))) w) : wpList P ops Q ({ dst := dst, op := .indexAddr t x i, type := ty, pos := pos, after := after, guard := guard } :: rest) a w :=
  wpL_indexVar ht he hx hi hq hm hg h
theorem wpL_appendBr {ao ax : Option Addr} {ca cx n m : Nat} {l l2 r : List UInt8} (hH : Holds w0 S bs (⟨.slice ao n ca, 5, 1, n, l.map byt⟩ :: rows) w) (hx : Sl w (.slice ax m cx) 1 m (l2.map byt)) (hr : l ++ l2 = r) (hn : n = l.length) (hm : m = l2.length) (hb : l.length + l2.length ≤ 100000000) {s y : Operand} (hs : a.eval s = .slice ao n ca) (hy : a.eval y = .slice ax m cx)
    (hg : Region.wanted { dst := dst, op := .call { callee := .builtin .append, args := #[s, y], argTypes := #[22, 22] }, type := ty, pos := pos, after := after, guard := guard } (yielded ops a.tmps) = true)
    (h : ∀ ao cap w', Holds w0 S bs (rowB ao cap r :: rows) w' → wpList Try.prog ops Q rest (a.put dst (.slice ao r.length cap)) w') :
    wpList Try.prog ops Q ({ dst := dst, op := .call { callee := .builtin .append, args := #[s, y], argTypes := #[22, 22] }, type := ty, pos := pos, after := after, guard := guard } :: rest) a w := by
  subst hr; exact wpL_appendB hH hx hn hm hb hs hy hg h
/-- An int cut to a byte, to a word. -/
def i2b (i : Int) : UInt8 := UInt8.ofNat (i % 256).toNat
def i2w (i : Int) : W32 := BitVec.ofNat 32 (i % 4294967296).toNat
theorem run_i2b {s d : TypeId} {z : TypeDesc} (hs : P.underlying s = some z) (hd : P.underlying d = some (.int .u8)) (k : IntKind) (i : Int) (w : World) : (convert s d (.int k i)).run P w = .ok (byt (i2b i)) w := by
  simp only [convert, Sem.run_bind, run_underlying hs, run_underlying hd, Result.andThen_ok, Conv.intToInt, Sem.run_pure]
  have e : IntKind.u8.wrap i = i % 256 := rfl
  rw [e]
  simp only [byt, i2b, UInt8.toNat_ofNat']
  congr 3
  omega
theorem run_i2w {s d : TypeId} {z : TypeDesc} (hs : P.underlying s = some z) (hd : P.underlying d = some (.int .u32)) (k : IntKind) (i : Int) (w : World) : (convert s d (.int k i)).run P w = .ok (wrd (i2w i)) w := by
  simp only [convert, Sem.run_bind, run_underlying hs, run_underlying hd, Result.andThen_ok, Conv.intToInt, Sem.run_pure]
  have e : IntKind.u32.wrap i = i % 4294967296 := rfl
  rw [e]
  simp only [wrd, i2w, BitVec.toNat_ofNat]
  congr 3
  omega
theorem wpL_i2b {s d : TypeId} {z : TypeDesc} {x : Operand} {k : IntKind} {i : Int} {b : UInt8} (hs : P.underlying s = some z) (hd : P.underlying d = some (.int .u8)) (hx : a.eval x = .int k i) (hb : i2b i = b)
    (hg : Region.wanted { dst := dst, op := .convert s d x, type := ty, pos := pos, after := after, guard := guard } (yielded ops a.tmps) = true)
    (h : wpList P ops Q rest (a.put dst (byt b)) w) : wpList P ops Q ({ dst := dst, op := .convert s d x, type := ty, pos := pos, after := after, guard := guard } :: rest) a w := by
  subst hb
  exact wpList_ex hg (by simp only [execOp, hx, Sem.run_bind, run_i2b hs hd, Result.andThen_ok, Sem.run_pure]) h
theorem wpL_i2w {s d : TypeId} {z : TypeDesc} {x : Operand} {k : IntKind} {i : Int} {u : W32} (hs : P.underlying s = some z) (hd : P.underlying d = some (.int .u32)) (hx : a.eval x = .int k i) (hb : i2w i = u)
    (hg : Region.wanted { dst := dst, op := .convert s d x, type := ty, pos := pos, after := after, guard := guard } (yielded ops a.tmps) = true)
    (h : wpList P ops Q rest (a.put dst (wrd u)) w) : wpList P ops Q ({ dst := dst, op := .convert s d x, type := ty, pos := pos, after := after, guard := guard } :: rest) a w := by
  subst hb
  exact wpList_ex hg (by simp only [execOp, hx, Sem.run_bind, run_i2w hs hd, Result.andThen_ok, Sem.run_pure]) h
end
abbrev Nd := Arr 16
abbrev Nd0 : Nd := Arr.zero 16
/-- The hash of bytes. -/
def hashN (l : List UInt8) : Nd := halfA (sumB l)
def leafPre (i : Int) : List UInt8 := [0, w2b (i2w i >>> 24), w2b (i2w i >>> 16), w2b (i2w i >>> 8), w2b (i2w i)]
def leafN (i : Int) (l : List UInt8) : Nd := hashN (leafPre i ++ l)
def joinN (i : Int) (x y : Nd) : Nd := hashN ([1, i2b i] ++ x.1 ++ y.1)
end Go.Proofs.Ytgkfopodhikckaa
/- hash and Leaf of merkle; half, Leaf, Join of the reference. Condition: at most 900000 bytes. -/
namespace Go.Proofs.Ytgkfopodhikckaa
open Go.RowKit
attribute [local irreducible] wpQuiet wpList
set_option maxRecDepth 100000 in
set_option maxHeartbeats 2000000 in
theorem hash_any (w : World) (v : Value) (l : List UInt8) (hl : Byts w v l) (hn : l.length ≤ 900000) : Calls Try.prog 65 #[v] w (RetA w (hashN l)) := by
  obtain ⟨ao, cap, rfl, hc⟩ := hl.shape
  have HL := hid hl
  clear hl
  have HH := hid (Holds.init w)
  obtain ⟨d, hd⟩ : ∃ d, hashN l = d := ⟨_, rfl⟩
  have HD := hid (show halfA (sumB l) = d from hd)
  rw [hd]
  clear hd
  go_enter Try.func65, Try.ntmps65
  go_wp2_with (first
    | ((first
        | ((with_reducible apply wpL_skip); rfl; skip)
        | (go_at_call 35; (with_reducible refine (sumHalf_any _ _ l (HH.out.sl HL.out) hn).mono ?_); rw [HD.out]; rintro e_ w2_ ⟨rfl, hb_⟩; (have hq_ := HH.out.grow hb_); clear HH; have HH := hid hq_; clear hq_ hb_)
        | ((with_reducible apply wpL_storeC (t := 34) (vs := d.cells)); rfl; rfl; (exact kS34); (exact HH.out); (exact .here); (exact Arr.len _); (exact cells_one _); (exact Arr.len _); rfl; (intro w_ hq_; clear HH; have HH := hid hq_; clear hq_))
        | ((with_reducible apply wpL_nilCheck); rfl; rfl)
        | ((with_reducible apply wpL_allocC (dst := some 2) kZ34 HH.out); rfl; (intro g2_ w_ hq_; (try simp only [List.set_cons_zero, List.set_cons_succ] at hq_); clear HH; have HH := hid hq_; clear hq_))
        | ((with_reducible apply wpL_storeArr (t := 34) kS34 HH.out); rfl; rfl; (first | exact .here | exact .there .here | exact .there (.there .here) | exact .there (.there (.there .here)) | exact .there (.there (.there (.there .here))) | exact .there (.there (.there (.there (.there .here)))) | exact .there (.there (.there (.there (.there (.there .here))))) | exact .there (.there (.there (.there (.there (.there (.there .here))))))); (first | rfl | exact Arr.len _ | (simp; done)); rfl; (intro w_ hq_; (try simp only [List.set_cons_zero, List.set_cons_succ] at hq_); clear HH; have HH := hid hq_; clear hq_))
        | ((with_reducible apply wpL_storeC (t := 34)); rfl; rfl; (exact kS34); (exact HH.out); (first | exact .here | exact .there .here | exact .there (.there .here) | exact .there (.there (.there .here)) | exact .there (.there (.there (.there .here))) | exact .there (.there (.there (.there (.there .here)))) | exact .there (.there (.there (.there (.there (.there .here))))) | exact .there (.there (.there (.there (.there (.there (.there .here))))))); (first | rfl | exact Arr.len _ | (simp; done)); (first | rfl | (intro u_ hu_; simp only [List.mem_cons, List.not_mem_nil, or_false] at hu_; rcases hu_ with rfl | hu_; rfl) | exact byt_cell1 _ | exact cells_one _ | exact wrd_one _ | exact flat_cell1 _); (first | rfl | exact Arr.len _ | (simp; done)); rfl; (intro w_ hq_; (try simp only [List.set_cons_zero, List.set_cons_succ] at hq_); clear HH; have HH := hid hq_; clear hq_))
        | ((with_reducible apply wpL_move); rfl; rfl)
        | ((with_reducible apply wpL_assign); rfl; rfl)
        | ((with_reducible apply wpL_pick); rfl; rfl; rfl)
        | ((with_reducible apply wpL_not); rfl; rfl)
        | ((with_reducible apply wpL_cmp (b := true)); rfl; rfl; rfl; (first | rfl | assumption | (simp only [cmpB, decide_eq_true_eq, decide_eq_false_iff_not, beq_iff_eq, bne_iff_ne, ne_eq, beq_eq_false_iff_ne, bne_eq_false_iff_eq, gt_iff_lt, ge_iff_le]; omega) | (simp; omega)); rfl)
        | ((with_reducible apply wpL_cmp (b := false)); rfl; rfl; rfl; (first | rfl | assumption | (simp only [cmpB, decide_eq_true_eq, decide_eq_false_iff_not, beq_iff_eq, bne_iff_ne, ne_eq, beq_eq_false_iff_ne, bne_eq_false_iff_eq, gt_iff_lt, ge_iff_le]; omega) | (simp; omega)); rfl)
        | ((with_reducible apply wpL_cmp); rfl; rfl; rfl; rfl; rfl)
        | ((with_reducible apply wpL_arith); rfl; rfl; rfl; (exact IntWalk.i64_in _ (by (try simp only [arithI]); omega)); rfl)); (try simp only [arithI, Act.put, Act.eval, List.setIfInBounds_toArray, List.set_cons_succ, List.set_cons_zero, Array.getD_eq_getD_getElem?, List.getElem?_toArray, List.getElem?_cons_succ, List.getElem?_cons_zero, Option.getD_some])))
  refine bodyPost_ret (res1 rfl (resC kA34 HH.out (by rfl) .here (Arr.len _))) rfl ?_
  exact ⟨rfl, HH.out.below⟩
set_option maxRecDepth 100000 in
set_option maxHeartbeats 2000000 in
theorem leaf_any (w : World) (i : Int) (v : Value) (l : List UInt8) (hl : Byts w v l) (hn : l.length ≤ 800000) : Calls Try.prog 45 #[.int .i64 i, v] w (RetA w (leafN i l)) := by
  obtain ⟨ao, cap, rfl, hc⟩ := hl.shape
  have HL := hid hl
  clear hl
  have HH := hid (Holds.init w)
  obtain ⟨pre, hp⟩ : ∃ pre, leafPre i = pre := ⟨_, rfl⟩
  have HP := hid hp
  have HPL := hid (show pre.length = 5 by rw [← hp]; rfl)
  obtain ⟨d, hd⟩ : ∃ d, leafN i l = d := ⟨_, rfl⟩
  obtain ⟨al, hal⟩ : ∃ al, pre ++ l = al := ⟨_, rfl⟩
  have HAL := hid hal
  have HD := hid (show hashN al = d by rw [← hal, ← hp]; exact hd)
  rw [hd]
  have hlen : al.length ≤ 900000 := by rw [← hal, List.length_append, HPL.out]; omega
  have HLEN := hid hlen
  clear hd hp hlen hal
  go_enter Try.func45, Try.ntmps45
  go_wp2_with (first
    | ((first
        | ((with_reducible apply wpL_skip); rfl; skip)
        | ((with_reducible apply wpL_i2w (u := i2w i) Try.underlying3 Try.underlying105); rfl; rfl; rfl)
        | ((with_reducible apply wpL_wshr (p := i2w i)); rfl; rfl; (exact (by decide)); rfl)
        | ((with_reducible apply wpL_w2b (dst := some 10) (p := i2w i >>> 24) Try.underlying105 Try.underlying5); rfl; rfl)
        | ((with_reducible apply wpL_w2b (dst := some 13) (p := i2w i >>> 16) Try.underlying105 Try.underlying5); rfl; rfl)
        | ((with_reducible apply wpL_w2b (dst := some 16) (p := i2w i >>> 8) Try.underlying105 Try.underlying5); rfl; rfl)
        | ((with_reducible apply wpL_w2b (dst := some 18) (p := i2w i) Try.underlying105 Try.underlying5); rfl; rfl)
        | ((with_reducible apply wpL_buildB pre); (exact HPL.out.symm); (rw [← HP.out]; rfl); (exact (by decide)); (exact HH.out); rfl; (intro g_ w_ hq_; simp only [rowB, HPL.out] at hq_; clear HH; have HH := hid hq_; clear hq_))
        | ((with_reducible apply wpL_appendBr (n := 5) (l := pre) (l2 := l) (r := al) HH.out (HH.out.sl HL.out) HAL.out); (exact HPL.out.symm); rfl; (have := HPL.out; omega); rfl; rfl; rfl; (intro ao2 cap2 w_ hq_; clear HH; have HH := hid hq_; clear hq_))
        | (go_at_call 65; (with_reducible refine (hash_any _ _ al HH.out.sl0 HLEN.out).mono ?_); rw [HD.out]; rintro e_ w2_ ⟨rfl, hb_⟩; (have hq_ := HH.out.grow hb_); clear HH; have HH := hid hq_; clear hq_ hb_)
        | ((with_reducible apply wpL_storeC (t := 34) (vs := d.cells)); rfl; rfl; (exact kS34); (exact HH.out); (exact .here); (exact Arr.len _); (exact cells_one _); (exact Arr.len _); rfl; (intro w_ hq_; clear HH; have HH := hid hq_; clear hq_))
        | ((with_reducible apply wpL_nilCheck); rfl; rfl)
        | ((with_reducible apply wpL_allocC (dst := some 4) kZ34 HH.out); rfl; (intro g4_ w_ hq_; (try simp only [List.set_cons_zero, List.set_cons_succ] at hq_); clear HH; have HH := hid hq_; clear hq_))
        | ((with_reducible apply wpL_storeArr (t := 34) kS34 HH.out); rfl; rfl; (first | exact .here | exact .there .here | exact .there (.there .here) | exact .there (.there (.there .here)) | exact .there (.there (.there (.there .here))) | exact .there (.there (.there (.there (.there .here)))) | exact .there (.there (.there (.there (.there (.there .here))))) | exact .there (.there (.there (.there (.there (.there (.there .here))))))); (first | rfl | exact Arr.len _ | (simp; done)); rfl; (intro w_ hq_; (try simp only [List.set_cons_zero, List.set_cons_succ] at hq_); clear HH; have HH := hid hq_; clear hq_))
        | ((with_reducible apply wpL_storeC (t := 34)); rfl; rfl; (exact kS34); (exact HH.out); (first | exact .here | exact .there .here | exact .there (.there .here) | exact .there (.there (.there .here)) | exact .there (.there (.there (.there .here))) | exact .there (.there (.there (.there (.there .here)))) | exact .there (.there (.there (.there (.there (.there .here))))) | exact .there (.there (.there (.there (.there (.there (.there .here))))))); (first | rfl | exact Arr.len _ | (simp; done)); (first | rfl | (intro u_ hu_; simp only [List.mem_cons, List.not_mem_nil, or_false] at hu_; rcases hu_ with rfl | hu_; rfl) | exact byt_cell1 _ | exact cells_one _ | exact wrd_one _ | exact flat_cell1 _); (first | rfl | exact Arr.len _ | (simp; done)); rfl; (intro w_ hq_; (try simp only [List.set_cons_zero, List.set_cons_succ] at hq_); clear HH; have HH := hid hq_; clear hq_))
        | ((with_reducible apply wpL_move); rfl; rfl)
        | ((with_reducible apply wpL_assign); rfl; rfl)
        | ((with_reducible apply wpL_pick); rfl; rfl; rfl)
        | ((with_reducible apply wpL_not); rfl; rfl)
        | ((with_reducible apply wpL_cmp (b := true)); rfl; rfl; rfl; (first | rfl | assumption | (simp only [cmpB, decide_eq_true_eq, decide_eq_false_iff_not, beq_iff_eq, bne_iff_ne, ne_eq, beq_eq_false_iff_ne, bne_eq_false_iff_eq, gt_iff_lt, ge_iff_le]; omega) | (simp; omega)); rfl)
        | ((with_reducible apply wpL_cmp (b := false)); rfl; rfl; rfl; (first | rfl | assumption | (simp only [cmpB, decide_eq_true_eq, decide_eq_false_iff_not, beq_iff_eq, bne_iff_ne, ne_eq, beq_eq_false_iff_ne, bne_eq_false_iff_eq, gt_iff_lt, ge_iff_le]; omega) | (simp; omega)); rfl)
        | ((with_reducible apply wpL_cmp); rfl; rfl; rfl; rfl; rfl)
        | ((with_reducible apply wpL_arith); rfl; rfl; rfl; (exact IntWalk.i64_in _ (by (try simp only [arithI]); omega)); rfl)); (try simp only [arithI, Act.put, Act.eval, List.setIfInBounds_toArray, List.set_cons_succ, List.set_cons_zero, Array.getD_eq_getD_getElem?, List.getElem?_toArray, List.getElem?_cons_succ, List.getElem?_cons_zero, Option.getD_some])))
  refine bodyPost_ret (res1 rfl (resC kA34 HH.out (by rfl) .here (Arr.len _))) rfl ?_
  exact ⟨rfl, HH.out.below⟩
/-- The first bytes of an array, the others zero. -/
def fillN (n : Nat) (pre : List UInt8) : List UInt8 := pre ++ List.replicate (n - pre.length) 0
theorem fillN_len {n : Nat} {pre : List UInt8} (h : pre.length ≤ n) : (fillN n pre).length = n := by simp [fillN]; omega
theorem fillN_set {n : Nat} {pre : List UInt8} (c : UInt8) (h : pre.length < n) : (fillN n pre).set pre.length c = fillN n (pre ++ [c]) := by
  unfold fillN
  rw [List.set_append_right _ _ (Nat.le_refl _), Nat.sub_self]
  have e : n - pre.length = (n - (pre ++ [c]).length) + 1 := by simp; omega
  rw [e, List.replicate_succ, List.set_cons_zero, List.append_assoc]
  rfl
theorem fillN_nil (n : Nat) : (fillN n []).map byt = (Arr.zero n).cells := by simp [fillN, Arr.cells, Arr.zero]
def HalfRel (w : World) (d : Arr 32) (g2 g3 g4 : Nat) (i : Value) (wr : World) : Prop :=
  ∃ k : Nat, k ≤ 16 ∧ i = .int .i64 k ∧ Holds w [] [(g4, objC ((fillN 16 (d.1.take k)).map byt) 41), (g3, objC d.cells 24), (g2, objC Nd0.cells 41)] [] wr
set_option maxRecDepth 100000 in
set_option maxHeartbeats 2000000 in
theorem half_any (w : World) (v : Value) (l : List UInt8) (hl : Byts w v l) (hn : l.length ≤ 900000) : Calls Try.prog 72 #[v] w (RetA w (hashN l)) := by
  obtain ⟨ao, cap, rfl, hc⟩ := hl.shape
  have HL := hid hl
  clear hl
  have HH := hid (Holds.init w)
  obtain ⟨d, hd⟩ : ∃ d, sumB l = d := ⟨_, rfl⟩
  have HD := hid hd
  have hh : hashN l = halfA d := by rw [← hd]; rfl
  rw [hh]
  have HDL := hid d.2
  clear hd hh
  go_enter Try.func72, Try.ntmps72
  go_wp2_with (first
    | ((first
        | ((with_reducible apply wpL_skip); rfl; skip)
        | (go_at_call 22; (with_reducible refine (sumR_any _ _ l (HH.out.sl HL.out) (by omega)).mono ?_); rw [HD.out]; rintro e_ w2_ ⟨rfl, hb_⟩; (have hq_ := HH.out.grow hb_); clear HH; have HH := hid hq_; clear hq_ hb_)
        | ((with_reducible apply wpL_storeC (t := 24) (vs := d.cells)); rfl; rfl; (exact kS24); (exact HH.out); (exact .here); (exact Arr.len _); (exact cells_one _); (exact Arr.len _); rfl; (intro w_ hq_; clear HH; have HH := hid hq_; clear hq_))
        | ((with_reducible apply wpL_nilCheck); rfl; rfl)
        | ((with_reducible apply wpL_load1 (t := 5) kO5 HH.out); rfl; (first | exact .here | exact .there .here | exact .there (.there .here) | exact .there (.there (.there .here)) | exact .there (.there (.there (.there .here))) | exact .there (.there (.there (.there (.there .here)))) | exact .there (.there (.there (.there (.there (.there .here))))) | exact .there (.there (.there (.there (.there (.there (.there .here))))))); rfl; rfl)
        | ((with_reducible apply wpL_loadArr (t := 41) kA41 HH.out); rfl; (first | exact .here | exact .there .here | exact .there (.there .here) | exact .there (.there (.there .here)) | exact .there (.there (.there (.there .here))) | exact .there (.there (.there (.there (.there .here)))) | exact .there (.there (.there (.there (.there (.there .here))))) | exact .there (.there (.there (.there (.there (.there (.there .here))))))); rfl)
        | ((with_reducible apply wpL_loadC (t := 41) kA41 HH.out); rfl; (first | exact .here | exact .there .here | exact .there (.there .here) | exact .there (.there (.there .here)) | exact .there (.there (.there (.there .here))) | exact .there (.there (.there (.there (.there .here)))) | exact .there (.there (.there (.there (.there (.there .here))))) | exact .there (.there (.there (.there (.there (.there (.there .here))))))); (first | rfl | exact Arr.len _ | (simp; done)); rfl)
        | ((with_reducible apply wpL_allocC (dst := some 2) kZ41 HH.out); rfl; (intro g2_ w_ hq_; (try simp only [List.set_cons_zero, List.set_cons_succ] at hq_); clear HH; have HH := hid hq_; clear hq_))
        | ((with_reducible apply wpL_allocC (dst := some 3) kZ24 HH.out); rfl; (intro g3_ w_ hq_; (try simp only [List.set_cons_zero, List.set_cons_succ] at hq_); clear HH; have HH := hid hq_; clear hq_))
        | ((with_reducible apply wpL_allocC (dst := some 4) kZ41 HH.out); rfl; (intro g4_ w_ hq_; (try simp only [List.set_cons_zero, List.set_cons_succ] at hq_); clear HH; have HH := hid hq_; clear hq_))
        | ((with_reducible apply wpL_store1 (t := 5)); rfl; rfl; rfl; (exact kS5); (exact HH.out); (first | exact .here | exact .there .here | exact .there (.there .here) | exact .there (.there (.there .here)) | exact .there (.there (.there (.there .here))) | exact .there (.there (.there (.there (.there .here)))) | exact .there (.there (.there (.there (.there (.there .here))))) | exact .there (.there (.there (.there (.there (.there (.there .here))))))); rfl; (first | exact Nat.le_of_ble_eq_true rfl | (simp; done) | omega); rfl; (intro w_ hq_; (try simp only [List.set_cons_zero, List.set_cons_succ] at hq_); clear HH; have HH := hid hq_; clear hq_))
        | ((with_reducible apply wpL_storeArr (t := 24) kS24 HH.out); rfl; rfl; (first | exact .here | exact .there .here | exact .there (.there .here) | exact .there (.there (.there .here)) | exact .there (.there (.there (.there .here))) | exact .there (.there (.there (.there (.there .here)))) | exact .there (.there (.there (.there (.there (.there .here))))) | exact .there (.there (.there (.there (.there (.there (.there .here))))))); (first | rfl | exact Arr.len _ | (simp; done)); rfl; (intro w_ hq_; (try simp only [List.set_cons_zero, List.set_cons_succ] at hq_); clear HH; have HH := hid hq_; clear hq_))
        | ((with_reducible apply wpL_storeC (t := 24)); rfl; rfl; (exact kS24); (exact HH.out); (first | exact .here | exact .there .here | exact .there (.there .here) | exact .there (.there (.there .here)) | exact .there (.there (.there (.there .here))) | exact .there (.there (.there (.there (.there .here)))) | exact .there (.there (.there (.there (.there (.there .here))))) | exact .there (.there (.there (.there (.there (.there (.there .here))))))); (first | rfl | exact Arr.len _ | (simp; done)); (first | rfl | (intro u_ hu_; simp only [List.mem_cons, List.not_mem_nil, or_false] at hu_; rcases hu_ with rfl | hu_; rfl) | exact byt_cell1 _ | exact cells_one _ | exact wrd_one _ | exact flat_cell1 _); (first | rfl | exact Arr.len _ | (simp; done)); rfl; (intro w_ hq_; (try simp only [List.set_cons_zero, List.set_cons_succ] at hq_); clear HH; have HH := hid hq_; clear hq_))
        | ((with_reducible apply wpL_storeArr (t := 41) kS41 HH.out); rfl; rfl; (first | exact .here | exact .there .here | exact .there (.there .here) | exact .there (.there (.there .here)) | exact .there (.there (.there (.there .here))) | exact .there (.there (.there (.there (.there .here)))) | exact .there (.there (.there (.there (.there (.there .here))))) | exact .there (.there (.there (.there (.there (.there (.there .here))))))); (first | rfl | exact Arr.len _ | (simp; done)); rfl; (intro w_ hq_; (try simp only [List.set_cons_zero, List.set_cons_succ] at hq_); clear HH; have HH := hid hq_; clear hq_))
        | ((with_reducible apply wpL_storeC (t := 41)); rfl; rfl; (exact kS41); (exact HH.out); (first | exact .here | exact .there .here | exact .there (.there .here) | exact .there (.there (.there .here)) | exact .there (.there (.there (.there .here))) | exact .there (.there (.there (.there (.there .here)))) | exact .there (.there (.there (.there (.there (.there .here))))) | exact .there (.there (.there (.there (.there (.there (.there .here))))))); (first | rfl | exact Arr.len _ | (simp; done)); (first | rfl | (intro u_ hu_; simp only [List.mem_cons, List.not_mem_nil, or_false] at hu_; rcases hu_ with rfl | hu_; rfl) | exact byt_cell1 _ | exact cells_one _ | exact wrd_one _ | exact flat_cell1 _); (first | rfl | exact Arr.len _ | (simp; done)); rfl; (intro w_ hq_; (try simp only [List.set_cons_zero, List.set_cons_succ] at hq_); clear HH; have HH := hid hq_; clear hq_))
        | ((with_reducible apply wpL_move); rfl; rfl)
        | ((with_reducible apply wpL_assign); rfl; rfl)
        | ((with_reducible apply wpL_pick); rfl; rfl; rfl)
        | ((with_reducible apply wpL_not); rfl; rfl)
        | ((with_reducible apply wpL_cmp (b := true)); rfl; rfl; rfl; (first | rfl | assumption | (simp only [cmpB, decide_eq_true_eq, decide_eq_false_iff_not, beq_iff_eq, bne_iff_ne, ne_eq, beq_eq_false_iff_ne, bne_eq_false_iff_eq, gt_iff_lt, ge_iff_le]; omega) | (simp; omega)); rfl)
        | ((with_reducible apply wpL_cmp (b := false)); rfl; rfl; rfl; (first | rfl | assumption | (simp only [cmpB, decide_eq_true_eq, decide_eq_false_iff_not, beq_iff_eq, bne_iff_ne, ne_eq, beq_eq_false_iff_ne, bne_eq_false_iff_eq, gt_iff_lt, ge_iff_le]; omega) | (simp; omega)); rfl)
        | ((with_reducible apply wpL_cmp); rfl; rfl; rfl; rfl; rfl)
        | ((with_reducible apply wpL_arith); rfl; rfl; rfl; (exact IntWalk.i64_in _ (by (try simp only [arithI]); omega)); rfl)); (try simp only [arithI, Act.put, Act.eval, List.setIfInBounds_toArray, List.set_cons_succ, List.set_cons_zero, Array.getD_eq_getD_getElem?, List.getElem?_toArray, List.getElem?_cons_succ, List.getElem?_cons_zero, Option.getD_some])))
  go_loopw [5] (HalfRel w d g2_ g3_ g4_) (fun i _ => 16 - (intOf i).toNat)
  case atStart => exact ⟨0, by omega, rfl, by rw [List.take_zero, fillN_nil]; exact HH.out⟩
  case round =>
    obtain ⟨k, hk, rfl, hr⟩ := hrel
    clear HH
    have HH := hid hr
    clear hr
    by_cases hlt : k < 16
    · have hkl : k < d.1.length := by rw [HDL.out]; omega
      have HTL := hid (show (d.1.take k).length = k by rw [List.length_take]; omega)
      have HB := hid (show d.cells[0 + k]? = some (byt (d.1.getD k 0)) by rw [Nat.zero_add]; simp [Arr.cells, hkl])
      have HST := hid (show (fillN 16 (d.1.take k)).set k (d.1.getD k 0) = fillN 16 (d.1.take (k + 1)) by
        have := fillN_set (n := 16) (pre := d.1.take k) (d.1.getD k 0) (by rw [HTL.out]; exact hlt)
        rw [HTL.out] at this
        rw [this, ← List.take_append_getElem hkl]
        simp [hkl])
      have HFL := hid (show k < (fillN 16 (d.1.take k)).length by rw [fillN_len (by rw [HTL.out]; omega)]; exact hlt)
      obtain ⟨c, hc⟩ : ∃ c, d.1.getD k 0 = c := ⟨_, rfl⟩
      rw [hc] at HB HST
      clear hc
      obtain ⟨f0, hf0⟩ : ∃ f0, fillN 16 (d.1.take k) = f0 := ⟨_, rfl⟩
      rw [hf0] at HST HFL HH
      clear hf0
      go_wp2_with (first
        | ((first
            | ((with_reducible apply wpL_skip); rfl; skip)
            | ((with_reducible apply wpL_indexV0 (dst := some 14) (m := k) Try.underlying24 kS5); rfl; rfl; rfl; (exact (by omega)); rfl)
            | ((with_reducible apply wpL_load1 (dst := some 15) (j := 0 + k) (v := byt c) kO5 HH.out); rfl; (exact .there .here); (exact HB.out); rfl)
            | ((with_reducible apply wpL_indexV0 (dst := some 16) (m := k) Try.underlying41 kS5); rfl; rfl; rfl; (exact (by omega)); rfl)
            | ((with_reducible apply wpL_storeAB (b := c) (m := k) (l := f0) (l' := fillN 16 (d.1.take (k + 1))) kS5 HH.out); rfl; rfl; (exact .here); (exact HST.out); (exact HFL.out); rfl; (intro w_ hq_; clear HH; have HH := hid hq_; clear hq_))
            | ((with_reducible apply wpL_nilCheck); rfl; rfl)
            | ((with_reducible apply wpL_load1 (t := 5) kO5 HH.out); rfl; (first | exact .here | exact .there .here | exact .there (.there .here) | exact .there (.there (.there .here)) | exact .there (.there (.there (.there .here))) | exact .there (.there (.there (.there (.there .here)))) | exact .there (.there (.there (.there (.there (.there .here))))) | exact .there (.there (.there (.there (.there (.there (.there .here))))))); rfl; rfl)
            | ((with_reducible apply wpL_loadArr (t := 41) kA41 HH.out); rfl; (first | exact .here | exact .there .here | exact .there (.there .here) | exact .there (.there (.there .here)) | exact .there (.there (.there (.there .here))) | exact .there (.there (.there (.there (.there .here)))) | exact .there (.there (.there (.there (.there (.there .here))))) | exact .there (.there (.there (.there (.there (.there (.there .here))))))); rfl)
            | ((with_reducible apply wpL_loadC (t := 41) kA41 HH.out); rfl; (first | exact .here | exact .there .here | exact .there (.there .here) | exact .there (.there (.there .here)) | exact .there (.there (.there (.there .here))) | exact .there (.there (.there (.there (.there .here)))) | exact .there (.there (.there (.there (.there (.there .here))))) | exact .there (.there (.there (.there (.there (.there (.there .here))))))); (first | rfl | exact Arr.len _ | (simp; done)); rfl)
            | ((with_reducible apply wpL_allocC (dst := some 2) kZ41 HH.out); rfl; (intro g2_ w_ hq_; (try simp only [List.set_cons_zero, List.set_cons_succ] at hq_); clear HH; have HH := hid hq_; clear hq_))
            | ((with_reducible apply wpL_allocC (dst := some 3) kZ24 HH.out); rfl; (intro g3_ w_ hq_; (try simp only [List.set_cons_zero, List.set_cons_succ] at hq_); clear HH; have HH := hid hq_; clear hq_))
            | ((with_reducible apply wpL_allocC (dst := some 4) kZ41 HH.out); rfl; (intro g4_ w_ hq_; (try simp only [List.set_cons_zero, List.set_cons_succ] at hq_); clear HH; have HH := hid hq_; clear hq_))
            | ((with_reducible apply wpL_store1 (t := 5)); rfl; rfl; rfl; (exact kS5); (exact HH.out); (first | exact .here | exact .there .here | exact .there (.there .here) | exact .there (.there (.there .here)) | exact .there (.there (.there (.there .here))) | exact .there (.there (.there (.there (.there .here)))) | exact .there (.there (.there (.there (.there (.there .here))))) | exact .there (.there (.there (.there (.there (.there (.there .here))))))); rfl; (first | exact Nat.le_of_ble_eq_true rfl | (simp; done) | omega); rfl; (intro w_ hq_; (try simp only [List.set_cons_zero, List.set_cons_succ] at hq_); clear HH; have HH := hid hq_; clear hq_))
            | ((with_reducible apply wpL_storeArr (t := 24) kS24 HH.out); rfl; rfl; (first | exact .here | exact .there .here | exact .there (.there .here) | exact .there (.there (.there .here)) | exact .there (.there (.there (.there .here))) | exact .there (.there (.there (.there (.there .here)))) | exact .there (.there (.there (.there (.there (.there .here))))) | exact .there (.there (.there (.there (.there (.there (.there .here))))))); (first | rfl | exact Arr.len _ | (simp; done)); rfl; (intro w_ hq_; (try simp only [List.set_cons_zero, List.set_cons_succ] at hq_); clear HH; have HH := hid hq_; clear hq_))
            | ((with_reducible apply wpL_storeC (t := 24)); rfl; rfl; (exact kS24); (exact HH.out); (first | exact .here | exact .there .here | exact .there (.there .here) | exact .there (.there (.there .here)) | exact .there (.there (.there (.there .here))) | exact .there (.there (.there (.there (.there .here)))) | exact .there (.there (.there (.there (.there (.there .here))))) | exact .there (.there (.there (.there (.there (.there (.there .here))))))); (first | rfl | exact Arr.len _ | (simp; done)); (first | rfl | (intro u_ hu_; simp only [List.mem_cons, List.not_mem_nil, or_false] at hu_; rcases hu_ with rfl | hu_; rfl) | exact byt_cell1 _ | exact cells_one _ | exact wrd_one _ | exact flat_cell1 _); (first | rfl | exact Arr.len _ | (simp; done)); rfl; (intro w_ hq_; (try simp only [List.set_cons_zero, List.set_cons_succ] at hq_); clear HH; have HH := hid hq_; clear hq_))
            | ((with_reducible apply wpL_storeArr (t := 41) kS41 HH.out); rfl; rfl; (first | exact .here | exact .there .here | exact .there (.there .here) | exact .there (.there (.there .here)) | exact .there (.there (.there (.there .here))) | exact .there (.there (.there (.there (.there .here)))) | exact .there (.there (.there (.there (.there (.there .here))))) | exact .there (.there (.there (.there (.there (.there (.there .here))))))); (first | rfl | exact Arr.len _ | (simp; done)); rfl; (intro w_ hq_; (try simp only [List.set_cons_zero, List.set_cons_succ] at hq_); clear HH; have HH := hid hq_; clear hq_))
            | ((with_reducible apply wpL_storeC (t := 41)); rfl; rfl; (exact kS41); (exact HH.out); (first | exact .here | exact .there .here | exact .there (.there .here) | exact .there (.there (.there .here)) | exact .there (.there (.there (.there .here))) | exact .there (.there (.there (.there (.there .here)))) | exact .there (.there (.there (.there (.there (.there .here))))) | exact .there (.there (.there (.there (.there (.there (.there .here))))))); (first | rfl | exact Arr.len _ | (simp; done)); (first | rfl | (intro u_ hu_; simp only [List.mem_cons, List.not_mem_nil, or_false] at hu_; rcases hu_ with rfl | hu_; rfl) | exact byt_cell1 _ | exact cells_one _ | exact wrd_one _ | exact flat_cell1 _); (first | rfl | exact Arr.len _ | (simp; done)); rfl; (intro w_ hq_; (try simp only [List.set_cons_zero, List.set_cons_succ] at hq_); clear HH; have HH := hid hq_; clear hq_))
            | ((with_reducible apply wpL_move); rfl; rfl)
            | ((with_reducible apply wpL_assign); rfl; rfl)
            | ((with_reducible apply wpL_pick); rfl; rfl; rfl)
            | ((with_reducible apply wpL_not); rfl; rfl)
            | ((with_reducible apply wpL_cmp (b := true)); rfl; rfl; rfl; (first | rfl | assumption | (simp only [cmpB, decide_eq_true_eq, decide_eq_false_iff_not, beq_iff_eq, bne_iff_ne, ne_eq, beq_eq_false_iff_ne, bne_eq_false_iff_eq, gt_iff_lt, ge_iff_le]; omega) | (simp; omega)); rfl)
            | ((with_reducible apply wpL_cmp (b := false)); rfl; rfl; rfl; (first | rfl | assumption | (simp only [cmpB, decide_eq_true_eq, decide_eq_false_iff_not, beq_iff_eq, bne_iff_ne, ne_eq, beq_eq_false_iff_ne, bne_eq_false_iff_eq, gt_iff_lt, ge_iff_le]; omega) | (simp; omega)); rfl)
            | ((with_reducible apply wpL_cmp); rfl; rfl; rfl; rfl; rfl)
            | ((with_reducible apply wpL_arith); rfl; rfl; rfl; (exact IntWalk.i64_in _ (by (try simp only [arithI]); omega)); rfl)); (try simp only [arithI, Act.put, Act.eval, List.setIfInBounds_toArray, List.set_cons_succ, List.set_cons_zero, Array.getD_eq_getD_getElem?, List.getElem?_toArray, List.getElem?_cons_succ, List.getElem?_cons_zero, Option.getD_some])))
      go_roundw
      case rel => exact ⟨k + 1, by omega, by go_num, HH.out⟩
      case measure => simp [intOf]; omega
    · obtain rfl : k = 16 := by omega
      have HE := hid (show (fillN 16 (d.1.take 16)).map byt = (halfA d).cells by
        have : (d.1.take 16).length = 16 := by rw [List.length_take, HDL.out]; rfl
        simp [fillN, this, halfA, Arr.cells])
      rw [HE.out] at HH
      go_wp2_with (first
        | ((first
            | ((with_reducible apply wpL_skip); rfl; skip)
            | ((with_reducible apply wpL_loadArr (v := halfA d) kA41 HH.out); rfl; (exact .here); rfl)
            | ((with_reducible apply wpL_storeC (t := 41) (vs := (halfA d).cells)); rfl; rfl; (exact kS41); (exact HH.out); (exact .there (.there .here)); (exact Arr.len _); (exact cells_one _); (exact Arr.len _); rfl; (intro w_ hq_; clear HH; have HH := hid hq_; clear hq_))
            | ((with_reducible apply wpL_nilCheck); rfl; rfl)
            | ((with_reducible apply wpL_load1 (t := 5) kO5 HH.out); rfl; (first | exact .here | exact .there .here | exact .there (.there .here) | exact .there (.there (.there .here)) | exact .there (.there (.there (.there .here))) | exact .there (.there (.there (.there (.there .here)))) | exact .there (.there (.there (.there (.there (.there .here))))) | exact .there (.there (.there (.there (.there (.there (.there .here))))))); rfl; rfl)
            | ((with_reducible apply wpL_loadArr (t := 41) kA41 HH.out); rfl; (first | exact .here | exact .there .here | exact .there (.there .here) | exact .there (.there (.there .here)) | exact .there (.there (.there (.there .here))) | exact .there (.there (.there (.there (.there .here)))) | exact .there (.there (.there (.there (.there (.there .here))))) | exact .there (.there (.there (.there (.there (.there (.there .here))))))); rfl)
            | ((with_reducible apply wpL_loadC (t := 41) kA41 HH.out); rfl; (first | exact .here | exact .there .here | exact .there (.there .here) | exact .there (.there (.there .here)) | exact .there (.there (.there (.there .here))) | exact .there (.there (.there (.there (.there .here)))) | exact .there (.there (.there (.there (.there (.there .here))))) | exact .there (.there (.there (.there (.there (.there (.there .here))))))); (first | rfl | exact Arr.len _ | (simp; done)); rfl)
            | ((with_reducible apply wpL_allocC (dst := some 2) kZ41 HH.out); rfl; (intro g2_ w_ hq_; (try simp only [List.set_cons_zero, List.set_cons_succ] at hq_); clear HH; have HH := hid hq_; clear hq_))
            | ((with_reducible apply wpL_allocC (dst := some 3) kZ24 HH.out); rfl; (intro g3_ w_ hq_; (try simp only [List.set_cons_zero, List.set_cons_succ] at hq_); clear HH; have HH := hid hq_; clear hq_))
            | ((with_reducible apply wpL_allocC (dst := some 4) kZ41 HH.out); rfl; (intro g4_ w_ hq_; (try simp only [List.set_cons_zero, List.set_cons_succ] at hq_); clear HH; have HH := hid hq_; clear hq_))
            | ((with_reducible apply wpL_store1 (t := 5)); rfl; rfl; rfl; (exact kS5); (exact HH.out); (first | exact .here | exact .there .here | exact .there (.there .here) | exact .there (.there (.there .here)) | exact .there (.there (.there (.there .here))) | exact .there (.there (.there (.there (.there .here)))) | exact .there (.there (.there (.there (.there (.there .here))))) | exact .there (.there (.there (.there (.there (.there (.there .here))))))); rfl; (first | exact Nat.le_of_ble_eq_true rfl | (simp; done) | omega); rfl; (intro w_ hq_; (try simp only [List.set_cons_zero, List.set_cons_succ] at hq_); clear HH; have HH := hid hq_; clear hq_))
            | ((with_reducible apply wpL_storeArr (t := 24) kS24 HH.out); rfl; rfl; (first | exact .here | exact .there .here | exact .there (.there .here) | exact .there (.there (.there .here)) | exact .there (.there (.there (.there .here))) | exact .there (.there (.there (.there (.there .here)))) | exact .there (.there (.there (.there (.there (.there .here))))) | exact .there (.there (.there (.there (.there (.there (.there .here))))))); (first | rfl | exact Arr.len _ | (simp; done)); rfl; (intro w_ hq_; (try simp only [List.set_cons_zero, List.set_cons_succ] at hq_); clear HH; have HH := hid hq_; clear hq_))
            | ((with_reducible apply wpL_storeC (t := 24)); rfl; rfl; (exact kS24); (exact HH.out); (first | exact .here | exact .there .here | exact .there (.there .here) | exact .there (.there (.there .here)) | exact .there (.there (.there (.there .here))) | exact .there (.there (.there (.there (.there .here)))) | exact .there (.there (.there (.there (.there (.there .here))))) | exact .there (.there (.there (.there (.there (.there (.there .here))))))); (first | rfl | exact Arr.len _ | (simp; done)); (first | rfl | (intro u_ hu_; simp only [List.mem_cons, List.not_mem_nil, or_false] at hu_; rcases hu_ with rfl | hu_; rfl) | exact byt_cell1 _ | exact cells_one _ | exact wrd_one _ | exact flat_cell1 _); (first | rfl | exact Arr.len _ | (simp; done)); rfl; (intro w_ hq_; (try simp only [List.set_cons_zero, List.set_cons_succ] at hq_); clear HH; have HH := hid hq_; clear hq_))
            | ((with_reducible apply wpL_storeArr (t := 41) kS41 HH.out); rfl; rfl; (first | exact .here | exact .there .here | exact .there (.there .here) | exact .there (.there (.there .here)) | exact .there (.there (.there (.there .here))) | exact .there (.there (.there (.there (.there .here)))) | exact .there (.there (.there (.there (.there (.there .here))))) | exact .there (.there (.there (.there (.there (.there (.there .here))))))); (first | rfl | exact Arr.len _ | (simp; done)); rfl; (intro w_ hq_; (try simp only [List.set_cons_zero, List.set_cons_succ] at hq_); clear HH; have HH := hid hq_; clear hq_))
            | ((with_reducible apply wpL_storeC (t := 41)); rfl; rfl; (exact kS41); (exact HH.out); (first | exact .here | exact .there .here | exact .there (.there .here) | exact .there (.there (.there .here)) | exact .there (.there (.there (.there .here))) | exact .there (.there (.there (.there (.there .here)))) | exact .there (.there (.there (.there (.there (.there .here))))) | exact .there (.there (.there (.there (.there (.there (.there .here))))))); (first | rfl | exact Arr.len _ | (simp; done)); (first | rfl | (intro u_ hu_; simp only [List.mem_cons, List.not_mem_nil, or_false] at hu_; rcases hu_ with rfl | hu_; rfl) | exact byt_cell1 _ | exact cells_one _ | exact wrd_one _ | exact flat_cell1 _); (first | rfl | exact Arr.len _ | (simp; done)); rfl; (intro w_ hq_; (try simp only [List.set_cons_zero, List.set_cons_succ] at hq_); clear HH; have HH := hid hq_; clear hq_))
            | ((with_reducible apply wpL_move); rfl; rfl)
            | ((with_reducible apply wpL_assign); rfl; rfl)
            | ((with_reducible apply wpL_pick); rfl; rfl; rfl)
            | ((with_reducible apply wpL_not); rfl; rfl)
            | ((with_reducible apply wpL_cmp (b := true)); rfl; rfl; rfl; (first | rfl | assumption | (simp only [cmpB, decide_eq_true_eq, decide_eq_false_iff_not, beq_iff_eq, bne_iff_ne, ne_eq, beq_eq_false_iff_ne, bne_eq_false_iff_eq, gt_iff_lt, ge_iff_le]; omega) | (simp; omega)); rfl)
            | ((with_reducible apply wpL_cmp (b := false)); rfl; rfl; rfl; (first | rfl | assumption | (simp only [cmpB, decide_eq_true_eq, decide_eq_false_iff_not, beq_iff_eq, bne_iff_ne, ne_eq, beq_eq_false_iff_ne, bne_eq_false_iff_eq, gt_iff_lt, ge_iff_le]; omega) | (simp; omega)); rfl)
            | ((with_reducible apply wpL_cmp); rfl; rfl; rfl; rfl; rfl)
            | ((with_reducible apply wpL_arith); rfl; rfl; rfl; (exact IntWalk.i64_in _ (by (try simp only [arithI]); omega)); rfl)); (try simp only [arithI, Act.put, Act.eval, List.setIfInBounds_toArray, List.set_cons_succ, List.set_cons_zero, Array.getD_eq_getD_getElem?, List.getElem?_toArray, List.getElem?_cons_succ, List.getElem?_cons_zero, Option.getD_some])))
      refine bodyPost_ret (res1 rfl (resC kA41 HH.out (by rfl) (.there (.there .here)) (Arr.len _))) rfl ?_
      exact ⟨rfl, HH.out.below⟩
set_option maxRecDepth 100000 in
set_option maxHeartbeats 2000000 in
theorem leafR_any (w : World) (i : Int) (v : Value) (l : List UInt8) (hl : Byts w v l) (hn : l.length ≤ 800000) : Calls Try.prog 46 #[.int .i64 i, v] w (RetA w (leafN i l)) := by
  obtain ⟨ao, cap, rfl, hc⟩ := hl.shape
  have HL := hid hl
  clear hl
  have HH := hid (Holds.init w)
  obtain ⟨pre, hp⟩ : ∃ pre, leafPre i = pre := ⟨_, rfl⟩
  have HP := hid hp
  have HPL := hid (show pre.length = 5 by rw [← hp]; rfl)
  obtain ⟨d, hd⟩ : ∃ d, leafN i l = d := ⟨_, rfl⟩
  obtain ⟨al, hal⟩ : ∃ al, pre ++ l = al := ⟨_, rfl⟩
  have HAL := hid hal
  have HD := hid (show hashN al = d by rw [← hal, ← hp]; exact hd)
  rw [hd]
  have hlen : al.length ≤ 900000 := by rw [← hal, List.length_append, HPL.out]; omega
  have HLEN := hid hlen
  clear hd hp hlen hal
  go_enter Try.func46, Try.ntmps46
  go_wp2_with (first
    | ((first
        | ((with_reducible apply wpL_skip); rfl; skip)
        | ((with_reducible apply wpL_i2w (u := i2w i) Try.underlying3 Try.underlying105); rfl; rfl; rfl)
        | ((with_reducible apply wpL_wshr (p := i2w i)); rfl; rfl; (exact (by decide)); rfl)
        | ((with_reducible apply wpL_w2b (dst := some 10) (p := i2w i >>> 24) Try.underlying105 Try.underlying5); rfl; rfl)
        | ((with_reducible apply wpL_w2b (dst := some 13) (p := i2w i >>> 16) Try.underlying105 Try.underlying5); rfl; rfl)
        | ((with_reducible apply wpL_w2b (dst := some 16) (p := i2w i >>> 8) Try.underlying105 Try.underlying5); rfl; rfl)
        | ((with_reducible apply wpL_w2b (dst := some 18) (p := i2w i) Try.underlying105 Try.underlying5); rfl; rfl)
        | ((with_reducible apply wpL_buildB pre); (exact HPL.out.symm); (rw [← HP.out]; rfl); (exact (by decide)); (exact HH.out); rfl; (intro g_ w_ hq_; simp only [rowB, HPL.out] at hq_; clear HH; have HH := hid hq_; clear hq_))
        | ((with_reducible apply wpL_appendBr (n := 5) (l := pre) (l2 := l) (r := al) HH.out (HH.out.sl HL.out) HAL.out); (exact HPL.out.symm); rfl; (have := HPL.out; omega); rfl; rfl; rfl; (intro ao2 cap2 w_ hq_; clear HH; have HH := hid hq_; clear hq_))
        | (go_at_call 72; (with_reducible refine (half_any _ _ al HH.out.sl0 HLEN.out).mono ?_); rw [HD.out]; rintro e_ w2_ ⟨rfl, hb_⟩; (have hq_ := HH.out.grow hb_); clear HH; have HH := hid hq_; clear hq_ hb_)
        | ((with_reducible apply wpL_storeC (t := 41) (vs := d.cells)); rfl; rfl; (exact kS41); (exact HH.out); (exact .here); (exact Arr.len _); (exact cells_one _); (exact Arr.len _); rfl; (intro w_ hq_; clear HH; have HH := hid hq_; clear hq_))
        | ((with_reducible apply wpL_nilCheck); rfl; rfl)
        | ((with_reducible apply wpL_allocC (dst := some 4) kZ41 HH.out); rfl; (intro g4_ w_ hq_; (try simp only [List.set_cons_zero, List.set_cons_succ] at hq_); clear HH; have HH := hid hq_; clear hq_))
        | ((with_reducible apply wpL_storeArr (t := 41) kS41 HH.out); rfl; rfl; (first | exact .here | exact .there .here | exact .there (.there .here) | exact .there (.there (.there .here)) | exact .there (.there (.there (.there .here))) | exact .there (.there (.there (.there (.there .here)))) | exact .there (.there (.there (.there (.there (.there .here))))) | exact .there (.there (.there (.there (.there (.there (.there .here))))))); (first | rfl | exact Arr.len _ | (simp; done)); rfl; (intro w_ hq_; (try simp only [List.set_cons_zero, List.set_cons_succ] at hq_); clear HH; have HH := hid hq_; clear hq_))
        | ((with_reducible apply wpL_storeC (t := 41)); rfl; rfl; (exact kS41); (exact HH.out); (first | exact .here | exact .there .here | exact .there (.there .here) | exact .there (.there (.there .here)) | exact .there (.there (.there (.there .here))) | exact .there (.there (.there (.there (.there .here)))) | exact .there (.there (.there (.there (.there (.there .here))))) | exact .there (.there (.there (.there (.there (.there (.there .here))))))); (first | rfl | exact Arr.len _ | (simp; done)); (first | rfl | (intro u_ hu_; simp only [List.mem_cons, List.not_mem_nil, or_false] at hu_; rcases hu_ with rfl | hu_; rfl) | exact byt_cell1 _ | exact cells_one _ | exact wrd_one _ | exact flat_cell1 _); (first | rfl | exact Arr.len _ | (simp; done)); rfl; (intro w_ hq_; (try simp only [List.set_cons_zero, List.set_cons_succ] at hq_); clear HH; have HH := hid hq_; clear hq_))
        | ((with_reducible apply wpL_move); rfl; rfl)
        | ((with_reducible apply wpL_assign); rfl; rfl)
        | ((with_reducible apply wpL_pick); rfl; rfl; rfl)
        | ((with_reducible apply wpL_not); rfl; rfl)
        | ((with_reducible apply wpL_cmp (b := true)); rfl; rfl; rfl; (first | rfl | assumption | (simp only [cmpB, decide_eq_true_eq, decide_eq_false_iff_not, beq_iff_eq, bne_iff_ne, ne_eq, beq_eq_false_iff_ne, bne_eq_false_iff_eq, gt_iff_lt, ge_iff_le]; omega) | (simp; omega)); rfl)
        | ((with_reducible apply wpL_cmp (b := false)); rfl; rfl; rfl; (first | rfl | assumption | (simp only [cmpB, decide_eq_true_eq, decide_eq_false_iff_not, beq_iff_eq, bne_iff_ne, ne_eq, beq_eq_false_iff_ne, bne_eq_false_iff_eq, gt_iff_lt, ge_iff_le]; omega) | (simp; omega)); rfl)
        | ((with_reducible apply wpL_cmp); rfl; rfl; rfl; rfl; rfl)
        | ((with_reducible apply wpL_arith); rfl; rfl; rfl; (exact IntWalk.i64_in _ (by (try simp only [arithI]); omega)); rfl)); (try simp only [arithI, Act.put, Act.eval, List.setIfInBounds_toArray, List.set_cons_succ, List.set_cons_zero, Array.getD_eq_getD_getElem?, List.getElem?_toArray, List.getElem?_cons_succ, List.getElem?_cons_zero, Option.getD_some])))
  refine bodyPost_ret (res1 rfl (resC kA41 HH.out (by rfl) .here (Arr.len _))) rfl ?_
  exact ⟨rfl, HH.out.below⟩
end Go.Proofs.Ytgkfopodhikckaa
/- Grow of nothing, Concat, Join. Condition: at most a hundred thousand bytes. -/
namespace Go.Proofs.Ytgkfopodhikckaa
open Go.RowKit
attribute [local irreducible] wpQuiet wpList
section
variable {w0 w : World} {S : List Nat} {bs bs' : List (Nat × Obj)} {rows : List Row} {ops : Array Oper} {rest : List Oper} {a : Act} {Q : Exit → Act → World → Prop} {dst : Option Tmp} {ty : TypeId} {pos : String} {after : Array Edge} {guard : Option (Nat × Bool)}
/-- append(nil, make([]byte, n)...). -/
theorem wpL_appendZ {n : Nat} {q : Int} {x y : Operand} (h0 : 0 < n) (hn : n ≤ 100000) (hx : a.eval x = .slice none 0 0) (hy : a.eval y = .int .i64 q) (hq : q = (n : Int)) (hH : Holds w0 S bs rows w)
    (hg : Region.wanted { dst := dst, op := .call { callee := .builtin .append, args := #[x, y], argTypes := #[22, 3] }, type := ty, pos := pos, after := after, guard := guard } (yielded ops a.tmps) = true)
    (h : ∀ g G w', Holds w0 S bs (⟨.slice (some ⟨g, 0, none⟩) 0 G, 5, 1, 0, []⟩ :: rows) w' → wpList Try.prog ops Q rest (a.put dst (.slice (some ⟨g, 0, none⟩) n G)) w') :
    wpList Try.prog ops Q ({ dst := dst, op := .call { callee := .builtin .append, args := #[x, y], argTypes := #[22, 3] }, type := ty, pos := pos, after := after, guard := guard } :: rest) a w := by
  subst hq
  obtain ⟨ht, hsz, hb1, i, z, hi, hz, hsize, hby, hzs⟩ := E22
  have hr := Lib.run_append_grow_zeros (P := Try.prog) w 22 3 ty 5 i z .i64 .i64 ht Try.underlying3 hi hz none 0 0 [] (run_firstCells_none w.drew i.size 0 0 0) n h0 (by omega) (by omega) (by omega) (by rw [hby]; omega)
    (by rw [hby]; exact growslice_fits (by omega) (by omega))
  have hge : n ≤ grownCap w (0 + n) 0 5 := by have := grownCap_ge w (0 + n) 0 5; omega
  have hle : grownCap w (0 + n) 0 5 ≤ maxLen := grownCap_le_maxLen w (0 + n) 0 5 (by unfold maxLen; omega)
  obtain ⟨G, hG⟩ : ∃ G, grownCap w (0 + n) 0 5 = G := ⟨_, rfl⟩
  rw [hG] at hr hge hle
  obtain ⟨cur, hcur⟩ : ∃ cur, (([] : List Value).toArray ++ Builtin.zeroCells z.cells n ++ Builtin.zeroCells z.cells (G - (0 + n))) = cur := ⟨_, rfl⟩
  have hcs : cur.size = G * 1 := by
    rw [← hcur]
    simp only [Array.size_append, List.size_toArray, size_zeroCells, List.length_nil, hzs]
    omega
  rw [hcur] at hr
  have hb : Below w.heap.size w (w.drew.alloc (.cells cur 5)) := (below_drew w).alloc (Nat.le_refl _) _
  have hrow : (w.drew.alloc (.cells cur 5)).ownsRow w.heap.size 5 1 (.slice (some ⟨w.heap.size, 0, none⟩) 0 G) 0 [] :=
    ⟨rfl, .inr ⟨w.heap.size, G, cur, rfl, Nat.le_refl _, heap_alloc_new w.drew _, Nat.zero_le _, hle, hcs, rfl⟩⟩
  refine wpList_ex hg (v := .slice (some ⟨w.heap.size, 0, none⟩) n G) ?_ (h _ _ _ (hH.addRow hb hrow))
  rw [BigFrame.execOp_builtin, BigFrame.builtin_append]
  simp only [Sem.run_bind, List.map_toArray, List.map_cons, List.map_nil, hx, hy, hr, Result.andThen_ok, Sem.run_pure, Nat.zero_add]
end
def RetGr (w : World) (e : Ending) (w' : World) : Prop :=
  ∃ ao G, e = .returned (.slice ao 0 G) ∧ w'.ownsRow w.heap.size 5 1 (.slice ao 0 G) 0 [] ∧ Below w.heap.size w w'
set_option maxRecDepth 100000 in
set_option maxHeartbeats 2000000 in
theorem growNil_any (w : World) (n : Nat) (h0 : 0 < n) (hn : n ≤ 100000) : Calls Try.prog 81 #[.slice none 0 0, .int .i64 n] w (RetGr w) := by
  have HH := hid (Holds.init w)
  go_enter Try.func81, Try.ntmps81
  go_wp2_with (first
    | ((first
        | ((with_reducible apply wpL_skip); rfl; skip)
        | ((with_reducible apply wpL_appendZ h0 hn); rfl; rfl; (exact (by go_num)); (exact HH.out); rfl; (intro g_ G_ w_ hq_; clear HH; have HH := hid hq_; clear hq_))
        | ((with_reducible apply wpL_nilCheck); rfl; rfl)
        | ((with_reducible apply wpL_len (t := 22) Try.underlying22); rfl; rfl)
        | ((with_reducible apply wpL_move); rfl; rfl)
        | ((with_reducible apply wpL_assign); rfl; rfl)
        | ((with_reducible apply wpL_pick); rfl; rfl; rfl)
        | ((with_reducible apply wpL_not); rfl; rfl)
        | ((with_reducible apply wpL_cmp (b := true)); rfl; rfl; rfl; (first | rfl | assumption | (simp only [cmpB, decide_eq_true_eq, decide_eq_false_iff_not, beq_iff_eq, bne_iff_ne, ne_eq, beq_eq_false_iff_ne, bne_eq_false_iff_eq, gt_iff_lt, ge_iff_le]; omega) | (simp; omega)); rfl)
        | ((with_reducible apply wpL_cmp (b := false)); rfl; rfl; rfl; (first | rfl | assumption | (simp only [cmpB, decide_eq_true_eq, decide_eq_false_iff_not, beq_iff_eq, bne_iff_ne, ne_eq, beq_eq_false_iff_ne, bne_eq_false_iff_eq, gt_iff_lt, ge_iff_le]; omega) | (simp; omega)); rfl)
        | ((with_reducible apply wpL_cmp); rfl; rfl; rfl; rfl; rfl)
        | ((with_reducible apply wpL_arith); rfl; rfl; rfl; (exact IntWalk.i64_in _ (by (try simp only [arithI]); omega)); rfl)); (try simp only [arithI, Act.put, Act.eval, List.setIfInBounds_toArray, List.set_cons_succ, List.set_cons_zero, Array.getD_eq_getD_getElem?, List.getElem?_toArray, List.getElem?_cons_succ, List.getElem?_cons_zero, Option.getD_some])))
  go_ret
  exact ⟨_, _, rfl, HH.out.own0, HH.out.below⟩
theorem RetBy.of {w w' : World} {l m : List UInt8} {ao : Option Addr} {cap : Nat} (h : l = m) (ho : w'.ownsRow w.heap.size 5 1 (.slice ao l.length cap) l.length (l.map byt)) (hb : Below w.heap.size w w') : RetBy w m (.returned (.slice ao l.length cap)) w' := by
  subst h; exact ⟨_, _, rfl, ho, hb⟩
def CatRel1 (w : World) (ls : List (List UInt8)) (n i : Value) (wr : World) : Prop :=
  ∃ k : Nat, k ≤ ls.length ∧ i = .int .i64 k ∧ n = .int .i64 ((ls.take k).flatten.length : Nat) ∧ Holds w [] [] [] wr
def CatRel2 (w : World) (ls : List (List UInt8)) (v i : Value) (wr : World) : Prop :=
  ∃ (k : Nat) (l : List UInt8) (ao : Option Addr) (cap : Nat), k ≤ ls.length ∧ i = .int .i64 k ∧ l = (ls.take k).flatten ∧ v = .slice ao l.length cap ∧ Holds w [] [] [rowB ao cap l] wr
theorem flat_step {ls : List (List UInt8)} {k : Nat} {p : List UInt8} (h : k < ls.length) (hp : ls.getD k [] = p) : (ls.take (k + 1)).flatten = (ls.take k).flatten ++ p := by
  rw [← List.take_append_getElem h, List.flatten_append]
  rw [List.getD_eq_getElem?_getD, List.getElem?_eq_getElem h, Option.getD_some] at hp
  simp [hp]
theorem flat_le (ls : List (List UInt8)) (k : Nat) : (ls.take k).flatten.length ≤ ls.flatten.length := by
  conv => rhs; rw [← List.take_append_drop k ls, List.flatten_append, List.length_append]
  omega
set_option maxRecDepth 100000 in
set_option maxHeartbeats 2000000 in
theorem concat_any (w : World) (v : Value) (ls : List (List UInt8)) (hl : Pcs w v ls) (hk : ls.length ≤ 1000) (h0 : 0 < ls.flatten.length) (hn : ls.flatten.length ≤ 100000) : Calls Try.prog 66 #[v] w (RetBy w ls.flatten) := by
  obtain ⟨cs, hsl, hcs⟩ := hl
  obtain ⟨ao, cap, rfl, hc⟩ := hsl.shape
  have HS := hid hsl
  have HCS := hid hcs
  clear hsl hcs
  obtain ⟨N, hN⟩ : ∃ N, ls.flatten.length = N := ⟨_, rfl⟩
  rw [hN] at h0 hn
  have HN := hid hN
  clear hN
  have HH := hid (Holds.init w)
  go_enter Try.func66, Try.ntmps66
  go_wp2_with (first
    | ((first
        | ((with_reducible apply wpL_skip); rfl; skip)
        | ((with_reducible apply wpL_nilCheck); rfl; rfl)
        | ((with_reducible apply wpL_load1 (t := 22) kO22 HH.out); rfl; (first | exact .here | exact .there .here | exact .there (.there .here) | exact .there (.there (.there .here)) | exact .there (.there (.there (.there .here))) | exact .there (.there (.there (.there (.there .here)))) | exact .there (.there (.there (.there (.there (.there .here))))) | exact .there (.there (.there (.there (.there (.there (.there .here))))))); rfl; rfl)
        | ((with_reducible apply wpL_len (t := 22) Try.underlying22); rfl; rfl)
        | ((with_reducible apply wpL_len (t := 62) Try.underlying62); rfl; rfl)
        | ((with_reducible apply wpL_move); rfl; rfl)
        | ((with_reducible apply wpL_assign); rfl; rfl)
        | ((with_reducible apply wpL_pick); rfl; rfl; rfl)
        | ((with_reducible apply wpL_not); rfl; rfl)
        | ((with_reducible apply wpL_cmp (b := true)); rfl; rfl; rfl; (first | rfl | assumption | (simp only [cmpB, decide_eq_true_eq, decide_eq_false_iff_not, beq_iff_eq, bne_iff_ne, ne_eq, beq_eq_false_iff_ne, bne_eq_false_iff_eq, gt_iff_lt, ge_iff_le]; omega) | (simp; omega)); rfl)
        | ((with_reducible apply wpL_cmp (b := false)); rfl; rfl; rfl; (first | rfl | assumption | (simp only [cmpB, decide_eq_true_eq, decide_eq_false_iff_not, beq_iff_eq, bne_iff_ne, ne_eq, beq_eq_false_iff_ne, bne_eq_false_iff_eq, gt_iff_lt, ge_iff_le]; omega) | (simp; omega)); rfl)
        | ((with_reducible apply wpL_cmp); rfl; rfl; rfl; rfl; rfl)
        | ((with_reducible apply wpL_arith); rfl; rfl; rfl; (exact IntWalk.i64_in _ (by (try simp only [arithI]); omega)); rfl)); (try simp only [arithI, Act.put, Act.eval, List.setIfInBounds_toArray, List.set_cons_succ, List.set_cons_zero, Array.getD_eq_getD_getElem?, List.getElem?_toArray, List.getElem?_cons_succ, List.getElem?_cons_zero, Option.getD_some])))
  go_loopw [3, 11] (CatRel1 w ls) (fun _ i _ => ls.length - (intOf i).toNat)
  case atStart => exact ⟨0, Nat.zero_le _, rfl, by simp, HH.out⟩
  case round =>
    obtain ⟨k, hk1, rfl, rfl, hr⟩ := hrel
    clear HH
    have HH := hid hr
    clear hr
    obtain ⟨m, hm⟩ : ∃ m, (ls.take k).flatten.length = m := ⟨_, rfl⟩
    have hmN : m ≤ N := by rw [← hm, ← HN.out]; exact flat_le ls k
    have HM := hid hm
    rw [hm]
    clear hm
    by_cases hlt : k < ls.length
    · obtain ⟨u, hu, hbu⟩ := HCS.out k hlt
      obtain ⟨au, cu, rfl, _⟩ := hbu.shape
      obtain ⟨p, hp⟩ : ∃ p, ls.getD k [] = p := ⟨_, rfl⟩
      have hst := flat_step hlt hp
      have hmp : m + p.length ≤ N := by
        have h1 := flat_le ls (k + 1)
        rw [hst, List.length_append, HM.out, HN.out] at h1
        exact h1
      have HST := hid (show (ls.take (k + 1)).flatten.length = m + p.length by rw [hst, List.length_append, HM.out])
      rw [hp] at hu hbu
      have HU := hid hu
      clear hu hbu hp hst
      obtain ⟨ad, cap', e⟩ := HS.out.some (by omega)
      cases e
      go_wp2_with (first
        | ((first
            | ((with_reducible apply wpL_skip); rfl; skip)
            | ((with_reducible apply wpL_idxB (dst := some 13) (j := k) kE62); rfl; rfl; rfl; (exact hlt); rfl)
            | ((with_reducible apply wpL_loadAt (dst := some 14) (v := .slice au p.length cu) kO22); (have hc_ := (HH.out.sl HS.out).cell k (.slice au p.length cu) HU.out; exact hc_); rfl; rfl)
            | ((with_reducible apply wpL_nilCheck); rfl; rfl)
            | ((with_reducible apply wpL_load1 (t := 22) kO22 HH.out); rfl; (first | exact .here | exact .there .here | exact .there (.there .here) | exact .there (.there (.there .here)) | exact .there (.there (.there (.there .here))) | exact .there (.there (.there (.there (.there .here)))) | exact .there (.there (.there (.there (.there (.there .here))))) | exact .there (.there (.there (.there (.there (.there (.there .here))))))); rfl; rfl)
            | ((with_reducible apply wpL_len (t := 22) Try.underlying22); rfl; rfl)
            | ((with_reducible apply wpL_len (t := 62) Try.underlying62); rfl; rfl)
            | ((with_reducible apply wpL_move); rfl; rfl)
            | ((with_reducible apply wpL_assign); rfl; rfl)
            | ((with_reducible apply wpL_pick); rfl; rfl; rfl)
            | ((with_reducible apply wpL_not); rfl; rfl)
            | ((with_reducible apply wpL_cmp (b := true)); rfl; rfl; rfl; (first | rfl | assumption | (simp only [cmpB, decide_eq_true_eq, decide_eq_false_iff_not, beq_iff_eq, bne_iff_ne, ne_eq, beq_eq_false_iff_ne, bne_eq_false_iff_eq, gt_iff_lt, ge_iff_le]; omega) | (simp; omega)); rfl)
            | ((with_reducible apply wpL_cmp (b := false)); rfl; rfl; rfl; (first | rfl | assumption | (simp only [cmpB, decide_eq_true_eq, decide_eq_false_iff_not, beq_iff_eq, bne_iff_ne, ne_eq, beq_eq_false_iff_ne, bne_eq_false_iff_eq, gt_iff_lt, ge_iff_le]; omega) | (simp; omega)); rfl)
            | ((with_reducible apply wpL_cmp); rfl; rfl; rfl; rfl; rfl)
            | ((with_reducible apply wpL_arith); rfl; rfl; rfl; (exact IntWalk.i64_in _ (by (try simp only [arithI]); omega)); rfl)); (try simp only [arithI, Act.put, Act.eval, List.setIfInBounds_toArray, List.set_cons_succ, List.set_cons_zero, Array.getD_eq_getD_getElem?, List.getElem?_toArray, List.getElem?_cons_succ, List.getElem?_cons_zero, Option.getD_some])))
      go_roundw
      case rel => exact ⟨k + 1, by omega, by go_num, by rw [HST.out]; go_num, HH.out⟩
      case measure => simp [intOf]; omega
    · obtain rfl : k = ls.length := by omega
      have hmN2 : m = N := by rw [← HM.out, ← HN.out, List.take_length]
      subst hmN2
      clear HM
      go_wp2_with (first
        | ((first
            | ((with_reducible apply wpL_skip); rfl; skip)
            | (go_at_call 81; (with_reducible refine (growNil_any _ m h0 hn).mono ?_); rintro e_ w2_ ⟨ao2, G2, rfl, hr_, hb_⟩; (have hq_ := HH.out.addRow hb_ hr_); clear HH; have HH := hid hq_; clear hq_ hr_ hb_)
            | ((with_reducible apply wpL_nilCheck); rfl; rfl)
            | ((with_reducible apply wpL_load1 (t := 22) kO22 HH.out); rfl; (first | exact .here | exact .there .here | exact .there (.there .here) | exact .there (.there (.there .here)) | exact .there (.there (.there (.there .here))) | exact .there (.there (.there (.there (.there .here)))) | exact .there (.there (.there (.there (.there (.there .here))))) | exact .there (.there (.there (.there (.there (.there (.there .here))))))); rfl; rfl)
            | ((with_reducible apply wpL_len (t := 22) Try.underlying22); rfl; rfl)
            | ((with_reducible apply wpL_len (t := 62) Try.underlying62); rfl; rfl)
            | ((with_reducible apply wpL_move); rfl; rfl)
            | ((with_reducible apply wpL_assign); rfl; rfl)
            | ((with_reducible apply wpL_pick); rfl; rfl; rfl)
            | ((with_reducible apply wpL_not); rfl; rfl)
            | ((with_reducible apply wpL_cmp (b := true)); rfl; rfl; rfl; (first | rfl | assumption | (simp only [cmpB, decide_eq_true_eq, decide_eq_false_iff_not, beq_iff_eq, bne_iff_ne, ne_eq, beq_eq_false_iff_ne, bne_eq_false_iff_eq, gt_iff_lt, ge_iff_le]; omega) | (simp; omega)); rfl)
            | ((with_reducible apply wpL_cmp (b := false)); rfl; rfl; rfl; (first | rfl | assumption | (simp only [cmpB, decide_eq_true_eq, decide_eq_false_iff_not, beq_iff_eq, bne_iff_ne, ne_eq, beq_eq_false_iff_ne, bne_eq_false_iff_eq, gt_iff_lt, ge_iff_le]; omega) | (simp; omega)); rfl)
            | ((with_reducible apply wpL_cmp); rfl; rfl; rfl; rfl; rfl)
            | ((with_reducible apply wpL_arith); rfl; rfl; rfl; (exact IntWalk.i64_in _ (by (try simp only [arithI]); omega)); rfl)); (try simp only [arithI, Act.put, Act.eval, List.setIfInBounds_toArray, List.set_cons_succ, List.set_cons_zero, Array.getD_eq_getD_getElem?, List.getElem?_toArray, List.getElem?_cons_succ, List.getElem?_cons_zero, Option.getD_some])))
      go_loopw [6, 27] (CatRel2 w ls) (fun _ i _ => ls.length - (intOf i).toNat)
      case atStart => exact ⟨0, [], ao2, G2, Nat.zero_le _, rfl, by simp, rfl, HH.out⟩
      case round =>
        obtain ⟨k, l, ao3, cap3, hk1, rfl, hl, rfl, hr⟩ := hrel
        clear HH
        have HH := hid hr
        have HLK := hid hl
        clear hr hl
        have hlN : l.length ≤ m := by rw [HLK.out, ← HN.out]; exact flat_le ls k
        by_cases hlt : k < ls.length
        · obtain ⟨u, hu, hbu⟩ := HCS.out k hlt
          obtain ⟨au, cu, rfl, _⟩ := hbu.shape
          obtain ⟨p, hp⟩ : ∃ p, ls.getD k [] = p := ⟨_, rfl⟩
          have hst := flat_step hlt hp
          have hmp : l.length + p.length ≤ m := by
            have h1 := flat_le ls (k + 1)
            rw [hst, List.length_append, ← HLK.out, HN.out] at h1
            exact h1
          obtain ⟨l2, hl2⟩ : ∃ l2, l ++ p = l2 := ⟨_, rfl⟩
          have HL2 := hid hl2
          have HST := hid (show l2 = (ls.take (k + 1)).flatten by rw [hst, ← HLK.out, hl2])
          rw [hp] at hu hbu
          have HU := hid hu
          have HBU := hid hbu
          clear hu hbu hp hst hl2
          obtain ⟨ad, cap', e⟩ := HS.out.some (by omega)
          cases e
          go_wp2_with (first
            | ((first
                | ((with_reducible apply wpL_skip); rfl; skip)
                | ((with_reducible apply wpL_idxB (dst := some 29) (j := k) kE62); rfl; rfl; rfl; (exact hlt); rfl)
                | ((with_reducible apply wpL_loadAt (dst := some 30) (v := .slice au p.length cu) kO22); (have hc_ := (HH.out.sl HS.out).cell k (.slice au p.length cu) HU.out; exact hc_); rfl; rfl)
                | ((with_reducible apply wpL_appendBr (dst := some 33) (l := l) (l2 := p) (r := l2) HH.out (HH.out.sl HBU.out) HL2.out); rfl; rfl; (exact (by omega)); rfl; rfl; rfl; (intro ao4 cap4 w_ hq_; clear HH; have HH := hid hq_; clear hq_))
                | ((with_reducible apply wpL_nilCheck); rfl; rfl)
                | ((with_reducible apply wpL_load1 (t := 22) kO22 HH.out); rfl; (first | exact .here | exact .there .here | exact .there (.there .here) | exact .there (.there (.there .here)) | exact .there (.there (.there (.there .here))) | exact .there (.there (.there (.there (.there .here)))) | exact .there (.there (.there (.there (.there (.there .here))))) | exact .there (.there (.there (.there (.there (.there (.there .here))))))); rfl; rfl)
                | ((with_reducible apply wpL_len (t := 22) Try.underlying22); rfl; rfl)
                | ((with_reducible apply wpL_len (t := 62) Try.underlying62); rfl; rfl)
                | ((with_reducible apply wpL_move); rfl; rfl)
                | ((with_reducible apply wpL_assign); rfl; rfl)
                | ((with_reducible apply wpL_pick); rfl; rfl; rfl)
                | ((with_reducible apply wpL_not); rfl; rfl)
                | ((with_reducible apply wpL_cmp (b := true)); rfl; rfl; rfl; (first | rfl | assumption | (simp only [cmpB, decide_eq_true_eq, decide_eq_false_iff_not, beq_iff_eq, bne_iff_ne, ne_eq, beq_eq_false_iff_ne, bne_eq_false_iff_eq, gt_iff_lt, ge_iff_le]; omega) | (simp; omega)); rfl)
                | ((with_reducible apply wpL_cmp (b := false)); rfl; rfl; rfl; (first | rfl | assumption | (simp only [cmpB, decide_eq_true_eq, decide_eq_false_iff_not, beq_iff_eq, bne_iff_ne, ne_eq, beq_eq_false_iff_ne, bne_eq_false_iff_eq, gt_iff_lt, ge_iff_le]; omega) | (simp; omega)); rfl)
                | ((with_reducible apply wpL_cmp); rfl; rfl; rfl; rfl; rfl)
                | ((with_reducible apply wpL_arith); rfl; rfl; rfl; (exact IntWalk.i64_in _ (by (try simp only [arithI]); omega)); rfl)); (try simp only [arithI, Act.put, Act.eval, List.setIfInBounds_toArray, List.set_cons_succ, List.set_cons_zero, Array.getD_eq_getD_getElem?, List.getElem?_toArray, List.getElem?_cons_succ, List.getElem?_cons_zero, Option.getD_some])))
          go_roundw
          case rel => exact ⟨k + 1, l2, _, _, by omega, by go_num, HST.out, rfl, HH.out⟩
          case measure => simp [intOf]; omega
        · have HE := hid (show l = ls.flatten by rw [HLK.out, List.take_of_length_le (by omega)])
          go_wp2_with (first
            | ((first
                | ((with_reducible apply wpL_skip); rfl; skip)
                | ((with_reducible apply wpL_nilCheck); rfl; rfl)
                | ((with_reducible apply wpL_load1 (t := 22) kO22 HH.out); rfl; (first | exact .here | exact .there .here | exact .there (.there .here) | exact .there (.there (.there .here)) | exact .there (.there (.there (.there .here))) | exact .there (.there (.there (.there (.there .here)))) | exact .there (.there (.there (.there (.there (.there .here))))) | exact .there (.there (.there (.there (.there (.there (.there .here))))))); rfl; rfl)
                | ((with_reducible apply wpL_len (t := 22) Try.underlying22); rfl; rfl)
                | ((with_reducible apply wpL_len (t := 62) Try.underlying62); rfl; rfl)
                | ((with_reducible apply wpL_move); rfl; rfl)
                | ((with_reducible apply wpL_assign); rfl; rfl)
                | ((with_reducible apply wpL_pick); rfl; rfl; rfl)
                | ((with_reducible apply wpL_not); rfl; rfl)
                | ((with_reducible apply wpL_cmp (b := true)); rfl; rfl; rfl; (first | rfl | assumption | (simp only [cmpB, decide_eq_true_eq, decide_eq_false_iff_not, beq_iff_eq, bne_iff_ne, ne_eq, beq_eq_false_iff_ne, bne_eq_false_iff_eq, gt_iff_lt, ge_iff_le]; omega) | (simp; omega)); rfl)
                | ((with_reducible apply wpL_cmp (b := false)); rfl; rfl; rfl; (first | rfl | assumption | (simp only [cmpB, decide_eq_true_eq, decide_eq_false_iff_not, beq_iff_eq, bne_iff_ne, ne_eq, beq_eq_false_iff_ne, bne_eq_false_iff_eq, gt_iff_lt, ge_iff_le]; omega) | (simp; omega)); rfl)
                | ((with_reducible apply wpL_cmp); rfl; rfl; rfl; rfl; rfl)
                | ((with_reducible apply wpL_arith); rfl; rfl; rfl; (exact IntWalk.i64_in _ (by (try simp only [arithI]); omega)); rfl)); (try simp only [arithI, Act.put, Act.eval, List.setIfInBounds_toArray, List.set_cons_succ, List.set_cons_zero, Array.getD_eq_getD_getElem?, List.getElem?_toArray, List.getElem?_cons_succ, List.getElem?_cons_zero, Option.getD_some])))
          go_ret
          exact RetBy.of HE.out HH.out.own0 HH.out.below
end Go.Proofs.Ytgkfopodhikckaa
/- IndexByte of a constant, Unhex of ascii. Condition: a text of at most a million bytes. -/
namespace Go.Proofs.Ytgkfopodhikckaa
open Go.RowKit
section
variable {P : Program} {ops : Array Oper} {rest : List Oper} {a : Act} {dst : Option Tmp} {ty : TypeId} {pos : String} {after : Array Edge} {guard : Option (Nat × Bool)} {w w0 : World} {S : List Nat} {bs : List (Nat × Obj)} {rows : List Row} {Q : Exit → Act → World → Prop} {C : World → Prop} {K : Act → Prop}
/-- A function value is called. -/
theorem ex_callV {f : FuncId} (hf : Body P f) {x : Operand} {first cap : Array Value} {xs : Array Operand} {ats : Array TypeId} {args : Array Value} (hx : a.eval x = .func (.func f) first cap) (ha : first ++ (xs.toList.map a.eval).toArray ++ cap = args) (w : World) :
    (execOp a.eval { dst := dst, op := .call { callee := .value x, args := xs, argTypes := ats }, type := ty, pos := pos, after := after, guard := guard }).run P w = .ok (.enter f args) w := by
  obtain ⟨fn, c, h1, h2, h3⟩ := hf
  have h3' : ¬ fn.name = "runtime.NumGoroutine" := by simpa using h3
  have hm : (xs.toList.map a.eval).toArray = xs.map a.eval := by rw [← Array.toList_map, Array.toArray_toList]
  rw [hm] at ha
  simp only [execOp, resolve, hx, Deferred.ofValue, Sem.run_bind, Sem.run_pure, Result.andThen_ok, invoke, ha]
  simp [callFunc, h1, h2, h3']
theorem wpQ_callV {f : FuncId} {v : Value} {args first cap : Array Value} (hf : Body P f) {x : Operand} {xs : Array Operand} {ats : Array TypeId} (hx : a.eval x = .func (.func f) first cap) (ha : first ++ (xs.toList.map a.eval).toArray ++ cap = args)
    (hc : ∀ w, C w → Calls P f args w fun e w' => e = .returned v ∧ C w')
    (hg : Region.wanted { dst := dst, op := .call { callee := .value x, args := xs, argTypes := ats }, type := ty, pos := pos, after := after, guard := guard } (yielded ops a.tmps) = true)
    (h : wpQuiet P ops C K rest (a.put dst v)) : wpQuiet P ops C K ({ dst := dst, op := .call { callee := .value x, args := xs, argTypes := ats }, type := ty, pos := pos, after := after, guard := guard } :: rest) a :=
  wpQuiet_call hg (fun w => ex_callV hf hx ha w) hc h
theorem wpL_callV {f : FuncId} {args first cap : Array Value} {R : Ending → World → Prop} (hf : Body P f) {x : Operand} {xs : Array Operand} {ats : Array TypeId} (hx : a.eval x = .func (.func f) first cap) (ha : first ++ (xs.toList.map a.eval).toArray ++ cap = args)
    (hc : Calls P f args w R)
    (hg : Region.wanted { dst := dst, op := .call { callee := .value x, args := xs, argTypes := ats }, type := ty, pos := pos, after := after, guard := guard } (yielded ops a.tmps) = true)
    (h : ∀ e w', R e w' → ∃ v, e = .returned v ∧ wpList P ops Q rest (a.put dst v) w') : wpList P ops Q ({ dst := dst, op := .call { callee := .value x, args := xs, argTypes := ats }, type := ty, pos := pos, after := after, guard := guard } :: rest) a w :=
  wpList_step fun K hK => by
    rw [if_pos hg]
    unfold Oper.wp
    rw [ex_callV hf hx ha w]
    simp only [Oper.upon]
    exact hc.mono fun e w' hR => by
      obtain ⟨v, rfl, hv⟩ := h e w' hR
      exact hK _ _ hv
theorem wpL_indexByteX {x y : Operand} {ats : Array TypeId} {l : List UInt8} {c : UInt8} {r : Int} (hx : a.eval x = str l) (hy : a.eval y = byt c) (hr : Lib.indexByte l c = r)
    (hg : Region.wanted { dst := dst, op := .call { callee := .value (.func 96), args := #[x, y], argTypes := ats }, type := ty, pos := pos, after := after, guard := guard } (yielded ops a.tmps) = true)
    (h : wpList Try.prog ops Q rest (a.put dst (.int .i64 r)) w) : wpList Try.prog ops Q ({ dst := dst, op := .call { callee := .value (.func 96), args := #[x, y], argTypes := ats }, type := ty, pos := pos, after := after, guard := guard } :: rest) a w := by
  subst hr
  refine wpList_ex hg ?_ h
  rw [execOp_call_go]
  simp only [List.map_toArray, List.map_cons, List.map_nil, hx, hy]
  rw [run_callFunc_extern Try.func96 (by kernel_rfl) (by kernel_rfl) (by kernel_rfl) (e := Extern.BytealgIndexByte.indexByte) (by kernel_rfl)]
  have := Lib.run_indexByteString (P := Try.prog) ⟨l.toArray⟩ (c.toNat : Int) w
  have hc : ((c.toNat : Int).toNat).toUInt8 = c := by simp
  rw [hc] at this
  show ((Extern.BytealgIndexByte.indexByte #[str l, byt c]).run Try.prog w).andThen _ = _
  unfold byt str
  rw [this]
  rfl
theorem wpL_or {t yt : TypeId} {x y : Operand} {k : IntKind} {p q : Int} {m n r : Nat} (hx : a.eval x = .int k p) (hy : a.eval y = .int k q) (hp : p = (m : Int)) (hq : q = (n : Int)) (hm : m < 2 ^ k.bits) (hn : n < 2 ^ k.bits) (hr : m ||| n = r) (hw : k.wrap (r : Int) = (r : Int))
    (hg : Region.wanted { dst := dst, op := .binOp .or t x y yt, type := ty, pos := pos, after := after, guard := guard } (yielded ops a.tmps) = true)
    (h : wpList P ops Q rest (a.put dst (.int k (r : Int))) w) : wpList P ops Q ({ dst := dst, op := .binOp .or t x y yt, type := ty, pos := pos, after := after, guard := guard } :: rest) a w := by
  subst hp hq hr
  refine wpList_ex hg ?_ h
  have he : ∀ u v, eqGuard .or t x y u v = pure () := fun _ _ => rfl
  have hr : (binOp .or t (.int k (m : Int)) (.int k (n : Int))).run P w = .ok (.int k ((m ||| n : Nat) : Int)) w := by
    have e : binOp .or t (.int k (m : Int)) (.int k (n : Int)) = Op.intBits .or k (m : Int) (n : Int) := by cases k <;> rfl
    rw [e]
    simp only [Op.intBits, Sem.run_pure]
    rw [BitVec.toNat_or, BitVec.ofInt_natCast, BitVec.ofInt_natCast, BitVec.toNat_ofNat, BitVec.toNat_ofNat, Nat.mod_eq_of_lt hm, Nat.mod_eq_of_lt hn, hw]
  simp only [execOp, hx, hy, Sem.run_bind, he, Sem.run_pure, Result.andThen_ok, hr]
theorem wpL_shlI {t yt : TypeId} {x y : Operand} {kk : IntKind} {p q : Int} {m n r : Nat} (hx : a.eval x = .int .i64 p) (hy : a.eval y = .int kk q) (hp : p = (m : Int)) (hq : q = (n : Int)) (hn : n < 64) (hr : m * 2 ^ n = r) (hb : r < 2 ^ 62)
    (hg : Region.wanted { dst := dst, op := .binOp .shl t x y yt, type := ty, pos := pos, after := after, guard := guard } (yielded ops a.tmps) = true)
    (h : wpList P ops Q rest (a.put dst (.int .i64 (r : Int))) w) : wpList P ops Q ({ dst := dst, op := .binOp .shl t x y yt, type := ty, pos := pos, after := after, guard := guard } :: rest) a w := by
  subst hp hq hr
  refine wpList_ex hg ?_ h
  have he : ∀ u v, eqGuard .shl t x y u v = pure () := fun _ _ => rfl
  have hr : (binOp .shl t (.int .i64 (m : Int)) (.int kk (n : Int))).run P w = .ok (.int .i64 ((m * 2 ^ n : Nat) : Int)) w := by
    show (Op.shift .shl .i64 (m : Int) kk (n : Int)).run P w = _
    have h0 : ¬ (n : Int) < 0 := by omega
    have h1 : min (n : Int).toNat IntKind.i64.bits = n := by
      have : IntKind.i64.bits = 64 := rfl
      omega
    simp only [Op.shift, h0, if_false, h1, Sem.run_pure]
    have : IntKind.i64.wrap ((m : Int) * 2 ^ n) = ((m * 2 ^ n : Nat) : Int) := by
      rw [show (m : Int) * 2 ^ n = ((m * 2 ^ n : Nat) : Int) by norm_cast]
      exact IntWalk.i64_in _ (by omega)
    rw [this]
  simp only [execOp, hx, hy, Sem.run_bind, he, Sem.run_pure, Result.andThen_ok, hr]
end
theorem idx93_any (w : World) (l : List UInt8) (c : UInt8) : Calls Try.prog 93 #[str l, byt c] w (fun e w' => e = .returned (.int .i64 (Lib.indexByte l c)) ∧ w' = w) := by
  go_enter Try.func93, Try.ntmps93
  go_wp2_with ((with_reducible apply wpL_indexByteX (l := l) (c := c)); rfl; rfl; rfl; rfl)
  go_ret
  exact ⟨rfl, rfl⟩
theorem idx86_any (w : World) (l : List UInt8) (c : UInt8) : Calls Try.prog 86 #[str l, byt c] w (fun e w' => e = .returned (.int .i64 (Lib.indexByte l c)) ∧ w' = w) := by
  go_enter Try.func86, Try.ntmps86
  go_wp2_with (go_at_call 93; refine (idx93_any _ _ _).mono ?_; rintro e_ w2_ ⟨rfl, rfl⟩)
  go_ret
  exact ⟨rfl, rfl⟩
/-- The value of a digit. -/
def hexV (c : UInt8) : Int := Lib.indexByte hexT c
theorem val85_any (w : World) (c : UInt8) : Calls Try.prog 85 #[byt c] w (fun e w' => e = .returned (.int .i64 (hexV c)) ∧ w' = w) := by
  have HV := hid (show Lib.indexByte hexT c = hexV c from rfl)
  go_enter Try.func85, Try.ntmps85
  go_wp2_with (go_at_call 86; refine (idx86_any _ hexT _).mono ?_; rw [HV.out]; rintro e_ w2_ ⟨rfl, rfl⟩)
  go_ret
  exact ⟨rfl, rfl⟩
theorem hexV_all : ∀ n : Fin 256, hexV (UInt8.ofNat n.1) = (if 48 ≤ n.1 ∧ n.1 ≤ 57 then (n.1 : Int) - 48 else if 97 ≤ n.1 ∧ n.1 ≤ 102 then (n.1 : Int) - 87 else -1) := by decide +kernel
theorem hexV_eq (c : UInt8) : hexV c = (if 48 ≤ c.toNat ∧ c.toNat ≤ 57 then (c.toNat : Int) - 48 else if 97 ≤ c.toNat ∧ c.toNat ≤ 102 then (c.toNat : Int) - 87 else -1) := by
  have := hexV_all ⟨c.toNat, c.toNat_lt⟩
  rwa [UInt8.ofNat_toNat] at this
theorem hexV_lt (c : UInt8) : -1 ≤ hexV c ∧ hexV c < 16 := by
  rw [hexV_eq]; split <;> (try split) <;> omega
/-- Two digits as a byte. -/
def pairB (a b : UInt8) : UInt8 := UInt8.ofNat ((hexV a).toNat * 16 + (hexV b).toNat)
def unhexL : List UInt8 → Option (List UInt8)
  | a :: b :: r => if hexV a < 0 ∨ hexV b < 0 then none else (unhexL r).map (pairB a b :: ·)
  | [] => some []
  | [_] => none
theorem unhexL_odd : ∀ l : List UInt8, l.length % 2 = 1 → unhexL l = none
  | [], h => by simp at h
  | [_], _ => rfl
  | a :: b :: r, h => by
    rw [unhexL, unhexL_odd r (by simp at h; omega)]
    simp
theorem unhexL_len : ∀ (l m : List UInt8), unhexL l = some m → l.length = 2 * m.length
  | [], m, h => by simp [unhexL] at h; subst h; rfl
  | [_], m, h => by simp [unhexL] at h
  | a :: b :: r, m, h => by
    rw [unhexL] at h
    split at h
    · cases h
    · simp only [Option.map_eq_some_iff] at h
      obtain ⟨m', h1, rfl⟩ := h
      have := unhexL_len r m' h1
      simp only [List.length_cons]; omega
theorem unhexL_at {s : List UInt8} {k : Nat} (h : k + 1 < s.length) : unhexL (s.drop k) = if hexV (s.getD k 0) < 0 ∨ hexV (s.getD (k + 1) 0) < 0 then none else (unhexL (s.drop (k + 2))).map (pairB (s.getD k 0) (s.getD (k + 1) 0) :: ·) := by
  rw [List.drop_eq_getElem_cons (by omega), List.drop_eq_getElem_cons h, unhexL]
  have e1 : s.getD k 0 = s[k] := by simp [show k < s.length by omega]
  have e2 : s.getD (k + 1) 0 = s[k + 1] := by simp [h]
  rw [e1, e2]
theorem unhexL_step {s pre : List UInt8} {j : Nat} {c : UInt8} (h : j + 1 < s.length) (hs : unhexL s = (unhexL (s.drop j)).map (pre ++ ·)) (h1 : ¬ hexV (s.getD j 0) < 0) (h2 : ¬ hexV (s.getD (j + 1) 0) < 0) (hc : pairB (s.getD j 0) (s.getD (j + 1) 0) = c) :
    unhexL s = (unhexL (s.drop (j + 2))).map ((pre ++ [c]) ++ ·) := by
  rw [hs, unhexL_at h, if_neg (by rintro (h' | h') <;> contradiction), hc]
  cases unhexL (s.drop (j + 2)) <;> simp
theorem unhexL_stop {s pre : List UInt8} {j : Nat} (h : j + 1 < s.length) (hs : unhexL s = (unhexL (s.drop j)).map (pre ++ ·)) (h1 : hexV (s.getD j 0) < 0 ∨ hexV (s.getD (j + 1) 0) < 0) : unhexL s = none := by
  rw [hs, unhexL_at h, if_pos h1]; rfl
theorem unhexL_end {s pre : List UInt8} {j : Nat} (h : j = s.length) (hs : unhexL s = (unhexL (s.drop j)).map (pre ++ ·)) : unhexL s = some pre := by
  rw [hs, h, List.drop_length]; simp [unhexL]
def RetUn (w : World) (r : Option (List UInt8)) (e : Ending) (w' : World) : Prop :=
  match r with
  | some l => ∃ ao cap, e = .returned (.tuple #[.slice ao l.length cap, .int .i64 0]) ∧ w'.ownsRow w.heap.size 5 1 (.slice ao l.length cap) l.length (l.map byt) ∧ Below w.heap.size w w'
  | none => e = .returned (.tuple #[.slice none 0 0, .int .i64 3]) ∧ Below w.heap.size w w'
def UnRel (w : World) (s : List UInt8) (v i : Value) (wr : World) : Prop :=
  ∃ (j : Nat) (pre : List UInt8) (ao : Option Addr) (cap : Nat), j ≤ s.length ∧ j = 2 * pre.length ∧ i = .int .i64 (j : Int) ∧ v = .slice ao pre.length cap ∧ unhexL s = (unhexL (s.drop j)).map (pre ++ ·) ∧ Holds w [] [] [rowB ao cap pre] wr
theorem ret_un_none {w w' : World} {s : List UInt8} {e : Ending} (h : unhexL s = none) (he : e = .returned (.tuple #[.slice none 0 0, .int .i64 3])) (hb : Below w.heap.size w w') : RetUn w (unhexL s) e w' := by
  rw [h]; exact ⟨he, hb⟩
theorem ret_un_some {w w' : World} {s l : List UInt8} {ao : Option Addr} {cap : Nat} {e : Ending} (h : unhexL s = some l) (he : e = .returned (.tuple #[.slice ao l.length cap, .int .i64 0])) (hq : Holds w [] [] [rowB ao cap l] w') : RetUn w (unhexL s) e w' := by
  rw [h]; exact ⟨ao, cap, he, hq.own0, hq.below⟩
theorem pair_or (m n : Nat) (hm : m < 16) (hn : n < 16) : m * 2 ^ 4 ||| n = m * 16 + n := by
  rw [show m * 2 ^ 4 = m <<< 4 from (Nat.shiftLeft_eq m 4).symm, ← Nat.shiftLeft_add_eq_or_of_lt (by omega) m, Nat.shiftLeft_eq]
set_option maxRecDepth 100000 in
set_option maxHeartbeats 2000000 in
theorem unhex_any (w : World) (s : List UInt8) (hn : s.length ≤ 1000000) : Calls Try.prog 70 #[str s] w (RetUn w (unhexL s)) := by
  have HH := hid (Holds.init w)
  by_cases hodd : s.length % 2 = 1
  · have HO := hid (unhexL_odd s hodd)
    have hz : ¬ (s.length : Int) % 2 = 0 := by omega
    go_enter Try.func70, Try.ntmps70
    go_wp2_with (first
      | ((first
          | ((with_reducible apply wpL_skip); rfl; skip)
          | ((with_reducible apply wpL_lenStr (l := s) Try.underlying9); rfl; rfl)
          | ((with_reducible apply wpL_remN (m := s.length) (n := 2)); rfl; rfl; rfl; rfl; (exact (by omega)); (exact (by omega)); (exact (by omega)); rfl; rw [hodd])
          | ((with_reducible apply wpL_nilCheck); rfl; rfl)
          | ((with_reducible apply wpL_len (t := 22) Try.underlying22); rfl; rfl)
          | ((with_reducible apply wpL_move); rfl; rfl)
          | ((with_reducible apply wpL_assign); rfl; rfl)
          | ((with_reducible apply wpL_pick); rfl; rfl; rfl)
          | ((with_reducible apply wpL_not); rfl; rfl)
          | ((with_reducible apply wpL_cmp (b := true)); rfl; rfl; rfl; (first | rfl | assumption | (simp only [cmpB, decide_eq_true_eq, decide_eq_false_iff_not, beq_iff_eq, bne_iff_ne, ne_eq, beq_eq_false_iff_ne, bne_eq_false_iff_eq, gt_iff_lt, ge_iff_le]; omega) | (simp; omega)); rfl)
          | ((with_reducible apply wpL_cmp (b := false)); rfl; rfl; rfl; (first | rfl | assumption | (simp only [cmpB, decide_eq_true_eq, decide_eq_false_iff_not, beq_iff_eq, bne_iff_ne, ne_eq, beq_eq_false_iff_ne, bne_eq_false_iff_eq, gt_iff_lt, ge_iff_le]; omega) | (simp; omega)); rfl)
          | ((with_reducible apply wpL_cmp); rfl; rfl; rfl; rfl; rfl)
          | ((with_reducible apply wpL_arith); rfl; rfl; rfl; (exact IntWalk.i64_in _ (by (try simp only [arithI]); omega)); rfl)); (try simp only [arithI, Act.put, Act.eval, List.setIfInBounds_toArray, List.set_cons_succ, List.set_cons_zero, Array.getD_eq_getD_getElem?, List.getElem?_toArray, List.getElem?_cons_succ, List.getElem?_cons_zero, Option.getD_some])))
    go_ret2
    exact ret_un_none HO.out rfl HH.out.below
  · have hev : s.length % 2 = 0 := by omega
    go_enter Try.func70, Try.ntmps70
    go_wp2_with (first
      | ((first
          | ((with_reducible apply wpL_skip); rfl; skip)
          | ((with_reducible apply wpL_lenStr (l := s) Try.underlying9); rfl; rfl)
          | ((with_reducible apply wpL_remN (m := s.length) (n := 2)); rfl; rfl; rfl; rfl; (exact (by omega)); (exact (by omega)); (exact (by omega)); rfl; rw [hev])
          | ((with_reducible apply wpL_nilCheck); rfl; rfl)
          | ((with_reducible apply wpL_len (t := 22) Try.underlying22); rfl; rfl)
          | ((with_reducible apply wpL_move); rfl; rfl)
          | ((with_reducible apply wpL_assign); rfl; rfl)
          | ((with_reducible apply wpL_pick); rfl; rfl; rfl)
          | ((with_reducible apply wpL_not); rfl; rfl)
          | ((with_reducible apply wpL_cmp (b := true)); rfl; rfl; rfl; (first | rfl | assumption | (simp only [cmpB, decide_eq_true_eq, decide_eq_false_iff_not, beq_iff_eq, bne_iff_ne, ne_eq, beq_eq_false_iff_ne, bne_eq_false_iff_eq, gt_iff_lt, ge_iff_le]; omega) | (simp; omega)); rfl)
          | ((with_reducible apply wpL_cmp (b := false)); rfl; rfl; rfl; (first | rfl | assumption | (simp only [cmpB, decide_eq_true_eq, decide_eq_false_iff_not, beq_iff_eq, bne_iff_ne, ne_eq, beq_eq_false_iff_ne, bne_eq_false_iff_eq, gt_iff_lt, ge_iff_le]; omega) | (simp; omega)); rfl)
          | ((with_reducible apply wpL_cmp); rfl; rfl; rfl; rfl; rfl)
          | ((with_reducible apply wpL_arith); rfl; rfl; rfl; (exact IntWalk.i64_in _ (by (try simp only [arithI]); omega)); rfl)); (try simp only [arithI, Act.put, Act.eval, List.setIfInBounds_toArray, List.set_cons_succ, List.set_cons_zero, Array.getD_eq_getD_getElem?, List.getElem?_toArray, List.getElem?_cons_succ, List.getElem?_cons_zero, Option.getD_some])))
    go_loopw [4, 6] (UnRel w s) (fun _ i _ => s.length - (intOf i).toNat)
    case atStart => exact ⟨0, [], none, 0, Nat.zero_le _, rfl, rfl, rfl, by simp, HH.out.addNil 5 1⟩
    case round =>
      obtain ⟨j, pre, ao, cap, hj, hj2, rfl, rfl, hs, hr⟩ := hrel
      clear HH
      have HH := hid hr
      have HS := hid hs
      have HJ := hid hj2
      have hpl : pre.length ≤ 1000000 := by omega
      clear hr hs
      by_cases hlt : j < s.length
      · have hlt1 : j + 1 < s.length := by omega
        clear hj2
        obtain ⟨u, hu⟩ : ∃ u, hexV (s.getD j 0) = u := ⟨_, rfl⟩
        obtain ⟨v, hv⟩ : ∃ v, hexV (s.getD (j + 1) 0) = v := ⟨_, rfl⟩
        have bu := hexV_lt (s.getD j 0)
        have bv := hexV_lt (s.getD (j + 1) 0)
        rw [hu] at bu
        rw [hv] at bv
        have HU := hid hu
        have HV := hid hv
        clear hu hv
        go_wp2_with (first
          | ((first
              | ((with_reducible apply wpL_skip); rfl; skip)
              | ((with_reducible apply wpL_lenStr (l := s) Try.underlying9); rfl; rfl)
              | ((with_reducible apply wpL_nilCheck); rfl; rfl)
              | ((with_reducible apply wpL_len (t := 22) Try.underlying22); rfl; rfl)
              | ((with_reducible apply wpL_move); rfl; rfl)
              | ((with_reducible apply wpL_assign); rfl; rfl)
              | ((with_reducible apply wpL_pick); rfl; rfl; rfl)
              | ((with_reducible apply wpL_not); rfl; rfl)
              | ((with_reducible apply wpL_cmp (b := true)); rfl; rfl; rfl; (first | rfl | assumption | (simp only [cmpB, decide_eq_true_eq, decide_eq_false_iff_not, beq_iff_eq, bne_iff_ne, ne_eq, beq_eq_false_iff_ne, bne_eq_false_iff_eq, gt_iff_lt, ge_iff_le]; omega) | (simp; omega)); rfl)
              | ((with_reducible apply wpL_cmp (b := false)); rfl; rfl; rfl; (first | rfl | assumption | (simp only [cmpB, decide_eq_true_eq, decide_eq_false_iff_not, beq_iff_eq, bne_iff_ne, ne_eq, beq_eq_false_iff_ne, bne_eq_false_iff_eq, gt_iff_lt, ge_iff_le]; omega) | (simp; omega)); rfl)
              | ((with_reducible apply wpL_cmp); rfl; rfl; rfl; rfl; rfl)
              | ((with_reducible apply wpL_arith); rfl; rfl; rfl; (exact IntWalk.i64_in _ (by (try simp only [arithI]); omega)); rfl)); (try simp only [arithI, Act.put, Act.eval, List.setIfInBounds_toArray, List.set_cons_succ, List.set_cons_zero, Array.getD_eq_getD_getElem?, List.getElem?_toArray, List.getElem?_cons_succ, List.getElem?_cons_zero, Option.getD_some])))
        refine wp_region_holds (by kernel_rfl) (by kernel_rfl) HH.out ?_
        repeat ((first
          | ((with_reducible apply wpQ_skip); rfl; skip)
          | ((with_reducible apply wpQ_indexStr (dst := some 22) (l := s) (m := j) (v := s.getD j 0) Try.underlying9); rfl; rfl; rfl; (exact hlt); rfl; rfl)
          | ((with_reducible apply wpQ_indexStr (dst := some 28) (l := s) (m := j + 1) (v := s.getD (j + 1) 0) Try.underlying9); rfl; rfl; (exact (by omega)); (exact hlt1); rfl; rfl)
          | ((with_reducible apply wpQ_callV (f := 85) (first := #[]) (cap := #[]) (dst := some 23) (v := .int .i64 u) (args := #[byt (s.getD j 0)]) kB85); rfl; (first | rfl | (simp only [Array.empty_append, Array.append_empty]; rfl)); (intro wq hwq; exact (val85_any wq _).mono fun e w' ⟨he, hb⟩ => ⟨by rw [he, HU.out], by rw [hb]; exact hwq⟩); rfl)
          | ((with_reducible apply wpQ_callV (f := 85) (first := #[]) (cap := #[]) (dst := some 29) (v := .int .i64 v) (args := #[byt (s.getD (j + 1) 0)]) kB85); rfl; (first | rfl | (simp only [Array.empty_append, Array.append_empty]; rfl)); (intro wq hwq; exact (val85_any wq _).mono fun e w' ⟨he, hb⟩ => ⟨by rw [he, HV.out], by rw [hb]; exact hwq⟩); rfl)
          | ((with_reducible apply wpQ_nilCheck); rfl; rfl)
          | ((with_reducible apply wpQ_len (t := 22) Try.underlying22); rfl; rfl)
          | ((with_reducible apply wpQ_move); rfl; rfl)
          | ((with_reducible apply wpQ_assign); rfl; rfl)
          | ((with_reducible apply wpQ_pick); rfl; rfl; rfl)
          | ((with_reducible apply wpQ_not); rfl; rfl)
          | ((with_reducible apply wpQ_cmp (b := true)); rfl; rfl; rfl; (first | rfl | assumption | (simp only [cmpB, decide_eq_true_eq, decide_eq_false_iff_not, beq_iff_eq, bne_iff_ne, ne_eq, beq_eq_false_iff_ne, bne_eq_false_iff_eq, gt_iff_lt, ge_iff_le]; omega) | (simp; omega)); rfl)
          | ((with_reducible apply wpQ_cmp (b := false)); rfl; rfl; rfl; (first | rfl | assumption | (simp only [cmpB, decide_eq_true_eq, decide_eq_false_iff_not, beq_iff_eq, bne_iff_ne, ne_eq, beq_eq_false_iff_ne, bne_eq_false_iff_eq, gt_iff_lt, ge_iff_le]; omega) | (simp; omega)); rfl)
          | ((with_reducible apply wpQ_cmp); rfl; rfl; rfl; rfl; rfl)
          | ((with_reducible apply wpQ_arith); rfl; rfl; rfl; (exact IntWalk.i64_in _ (by (try simp only [arithI]); omega)); rfl)); (try simp only [if_true, if_false, Bool.false_eq_true, arithI, Act.put, Act.eval, List.setIfInBounds_toArray, List.set_cons_succ, List.set_cons_zero, Array.getD_eq_getD_getElem?, List.getElem?_toArray, List.getElem?_cons_succ, List.getElem?_cons_zero, Option.getD_some]))
        refine wpQuiet_nil ?_
        intro wq hq_
        have HQ := hid hq_
        clear hq_
        clear HH
        have HH := HQ
        clear HQ
        by_cases hneg : u < 0
        · go_wp2
          go_ret2
          exact ret_un_none (unhexL_stop hlt1 HS.out (.inl (by rw [HU.out]; exact hneg))) rfl HH.out.below
        · by_cases hneg2 : v < 0
          · go_wp2
            go_ret2
            exact ret_un_none (unhexL_stop hlt1 HS.out (.inr (by rw [HV.out]; exact hneg2))) rfl HH.out.below
          · have HP := hid (show pairB (s.getD j 0) (s.getD (j + 1) 0) = UInt8.ofNat (u.toNat * 16 + v.toNat) by unfold pairB; rw [HU.out, HV.out])
            have HST := hid (unhexL_step hlt1 HS.out (by rw [HU.out]; exact hneg) (by rw [HV.out]; exact hneg2) HP.out)
            have HW := hid (show IntKind.i64.wrap ((u.toNat * 16 + v.toNat : Nat) : Int) = ((u.toNat * 16 + v.toNat : Nat) : Int) from IntWalk.i64_in _ (by omega))
            go_wp2_with (first
              | ((first
                  | ((with_reducible apply wpL_skip); rfl; skip)
                  | ((with_reducible apply wpL_shlI (m := u.toNat) (n := 4) (r := u.toNat * 2 ^ 4)); rfl; rfl; (exact (by omega)); rfl; (exact (by omega)); rfl; (exact (by omega)); rfl)
                  | ((with_reducible apply wpL_or (m := u.toNat * 2 ^ 4) (n := v.toNat) (r := u.toNat * 16 + v.toNat)); rfl; rfl; rfl; (exact (by omega)); (exact (by show _ < 2 ^ 64; omega)); (exact (by show _ < 2 ^ 64; omega)); (exact pair_or _ _ (by omega) (by omega)); (exact HW.out); rfl)
                  | ((with_reducible apply wpL_toB (m := u.toNat * 16 + v.toNat) Try.underlying3 Try.underlying5); rfl; rfl; rfl)
                  | ((with_reducible apply wpL_buildB [UInt8.ofNat (u.toNat * 16 + v.toNat)] (dst := some 42)); rfl; rfl; (exact (by omega)); (exact HH.out); rfl; (intro g_ w_ hq_; clear HH; have HH := hid hq_; clear hq_))
                  | ((with_reducible apply wpL_appendB (dst := some 43) (l := pre) (l2 := [UInt8.ofNat (u.toNat * 16 + v.toNat)]) HH.out.swap HH.out.sl0); rfl; rfl; (exact (by simp; omega)); rfl; rfl; rfl; (intro ao1 cap1 w_ hq_; clear HH; have HH := hid hq_.dropSnd; clear hq_))
                  | ((with_reducible apply wpL_nilCheck); rfl; rfl)
                  | ((with_reducible apply wpL_len (t := 22) Try.underlying22); rfl; rfl)
                  | ((with_reducible apply wpL_move); rfl; rfl)
                  | ((with_reducible apply wpL_assign); rfl; rfl)
                  | ((with_reducible apply wpL_pick); rfl; rfl; rfl)
                  | ((with_reducible apply wpL_not); rfl; rfl)
                  | ((with_reducible apply wpL_cmp (b := true)); rfl; rfl; rfl; (first | rfl | assumption | (simp only [cmpB, decide_eq_true_eq, decide_eq_false_iff_not, beq_iff_eq, bne_iff_ne, ne_eq, beq_eq_false_iff_ne, bne_eq_false_iff_eq, gt_iff_lt, ge_iff_le]; omega) | (simp; omega)); rfl)
                  | ((with_reducible apply wpL_cmp (b := false)); rfl; rfl; rfl; (first | rfl | assumption | (simp only [cmpB, decide_eq_true_eq, decide_eq_false_iff_not, beq_iff_eq, bne_iff_ne, ne_eq, beq_eq_false_iff_ne, bne_eq_false_iff_eq, gt_iff_lt, ge_iff_le]; omega) | (simp; omega)); rfl)
                  | ((with_reducible apply wpL_cmp); rfl; rfl; rfl; rfl; rfl)
                  | ((with_reducible apply wpL_arith); rfl; rfl; rfl; (exact IntWalk.i64_in _ (by (try simp only [arithI]); omega)); rfl)); (try simp only [arithI, Act.put, Act.eval, List.setIfInBounds_toArray, List.set_cons_succ, List.set_cons_zero, Array.getD_eq_getD_getElem?, List.getElem?_toArray, List.getElem?_cons_succ, List.getElem?_cons_zero, Option.getD_some])))
            go_roundw
            case rel => exact ⟨j + 2, _, _, _, by omega, by rw [List.length_append]; have := HJ.out; simp; omega, by go_num, rfl, HST.out, HH.out⟩
            case measure => simp [intOf]; omega
      · have hje : j = s.length := by omega
        have HE := hid (unhexL_end hje HS.out)
        clear hje hj2
        go_wp2_with (first
          | ((first
              | ((with_reducible apply wpL_skip); rfl; skip)
              | ((with_reducible apply wpL_lenStr (l := s) Try.underlying9); rfl; rfl)
              | ((with_reducible apply wpL_nilCheck); rfl; rfl)
              | ((with_reducible apply wpL_len (t := 22) Try.underlying22); rfl; rfl)
              | ((with_reducible apply wpL_move); rfl; rfl)
              | ((with_reducible apply wpL_assign); rfl; rfl)
              | ((with_reducible apply wpL_pick); rfl; rfl; rfl)
              | ((with_reducible apply wpL_not); rfl; rfl)
              | ((with_reducible apply wpL_cmp (b := true)); rfl; rfl; rfl; (first | rfl | assumption | (simp only [cmpB, decide_eq_true_eq, decide_eq_false_iff_not, beq_iff_eq, bne_iff_ne, ne_eq, beq_eq_false_iff_ne, bne_eq_false_iff_eq, gt_iff_lt, ge_iff_le]; omega) | (simp; omega)); rfl)
              | ((with_reducible apply wpL_cmp (b := false)); rfl; rfl; rfl; (first | rfl | assumption | (simp only [cmpB, decide_eq_true_eq, decide_eq_false_iff_not, beq_iff_eq, bne_iff_ne, ne_eq, beq_eq_false_iff_ne, bne_eq_false_iff_eq, gt_iff_lt, ge_iff_le]; omega) | (simp; omega)); rfl)
              | ((with_reducible apply wpL_cmp); rfl; rfl; rfl; rfl; rfl)
              | ((with_reducible apply wpL_arith); rfl; rfl; rfl; (exact IntWalk.i64_in _ (by (try simp only [arithI]); omega)); rfl)); (try simp only [arithI, Act.put, Act.eval, List.setIfInBounds_toArray, List.set_cons_succ, List.set_cons_zero, Array.getD_eq_getD_getElem?, List.getElem?_toArray, List.getElem?_cons_succ, List.getElem?_cons_zero, Option.getD_some])))
        go_ret2
        exact ret_un_some HE.out rfl HH.out
end Go.Proofs.Ytgkfopodhikckaa
/- Bytes divided, bytes as numbers, strings cut. Over any program. No condition. -/
namespace Go.Proofs.Ytgkfopodhikckaa
open Go.RowKit
section
variable {P : Program} {ops : Array Oper} {rest : List Oper} {a : Act} {dst : Option Tmp} {ty : TypeId} {pos : String} {after : Array Edge} {guard : Option (Nat × Bool)} {w w0 : World} {S : List Nat} {bs : List (Nat × Obj)} {rows : List Row} {Q : Exit → Act → World → Prop} {C : World → Prop} {K : Act → Prop}
theorem run_quoB (t : TypeId) (m n : Nat) (hn : 0 < n) (hm : m < 256) (w : World) : (binOp .quo t (.int .u8 (m : Int)) (.int .u8 (n : Int))).run P w = .ok (.int .u8 ((m / n : Nat) : Int)) w := by
  show (Op.intDiv .quo .u8 (m : Int) (n : Int)).run P w = _
  have h0 : ¬ (n : Int) = 0 := by omega
  have h1 : IntKind.u8.wrap ((m : Int).tdiv (n : Int)) = ((m / n : Nat) : Int) := by rw [IntWalk.u8_quo _ _ (by omega)]; norm_cast
  simp only [Op.intDiv, h0, if_false, Sem.run_pure, h1]
theorem run_remB (t : TypeId) (m n : Nat) (hn : 0 < n) (w : World) : (binOp .rem t (.int .u8 (m : Int)) (.int .u8 (n : Int))).run P w = .ok (.int .u8 ((m % n : Nat) : Int)) w := by
  show (Op.intDiv .rem .u8 (m : Int) (n : Int)).run P w = _
  have h0 : ¬ (n : Int) = 0 := by omega
  have h1 : ((m : Int).tmod (n : Int)) = ((m % n : Nat) : Int) := by rw [IntWalk.rem_in _ _ (by omega)]; norm_cast
  simp only [Op.intDiv, h0, if_false, Sem.run_pure, h1]
theorem wpQ_quoB {t yt : TypeId} {b : UInt8} {n r : Nat} {q : Int} {x y : Operand} (hx : a.eval x = byt b) (hy : a.eval y = .int .u8 q) (hq : q = (n : Int)) (hn : 0 < n) (hr : b.toNat / n = r)
    (hg : Region.wanted { dst := dst, op := .binOp .quo t x y yt, type := ty, pos := pos, after := after, guard := guard } (yielded ops a.tmps) = true)
    (h : wpQuiet P ops C K rest (a.put dst (.int .u8 (r : Int)))) : wpQuiet P ops C K ({ dst := dst, op := .binOp .quo t x y yt, type := ty, pos := pos, after := after, guard := guard } :: rest) a := by
  subst hq hr
  have he : ∀ u v, eqGuard .quo t x y u v = pure () := fun _ _ => rfl
  exact wpQuiet_ex hg (fun w _ => by simp only [execOp, hx, hy, byt, Sem.run_bind, he, Sem.run_pure, Result.andThen_ok, run_quoB t _ n hn b.toNat_lt]) h
theorem wpQ_remB {t yt : TypeId} {b : UInt8} {n r : Nat} {q : Int} {x y : Operand} (hx : a.eval x = byt b) (hy : a.eval y = .int .u8 q) (hq : q = (n : Int)) (hn : 0 < n) (hr : b.toNat % n = r)
    (hg : Region.wanted { dst := dst, op := .binOp .rem t x y yt, type := ty, pos := pos, after := after, guard := guard } (yielded ops a.tmps) = true)
    (h : wpQuiet P ops C K rest (a.put dst (.int .u8 (r : Int)))) : wpQuiet P ops C K ({ dst := dst, op := .binOp .rem t x y yt, type := ty, pos := pos, after := after, guard := guard } :: rest) a := by
  subst hq hr
  have he : ∀ u v, eqGuard .rem t x y u v = pure () := fun _ _ => rfl
  exact wpQuiet_ex hg (fun w _ => by simp only [execOp, hx, hy, byt, Sem.run_bind, he, Sem.run_pure, Result.andThen_ok, run_remB t _ n hn]) h
theorem ex_sliceStr {ρ : Operand → Value} {t : TypeId} (ht : P.underlying t = some .string) {x : Operand} {l : List UInt8} {lo hi : Option Operand} {i j : Nat} (hx : ρ x = str l) (hlo : (lo.map ρ = none ∧ i = 0) ∨ ∃ k, lo.map ρ = some (.int k (i : Int))) (hhi : (hi.map ρ = none ∧ j = l.length) ∨ ∃ k, hi.map ρ = some (.int k (j : Int))) (hij : i ≤ j) (hj : j ≤ l.length) (w : World) :
    (execOp ρ { dst := dst, op := .slice t x lo hi none, type := ty, pos := pos, after := after, guard := guard }).run P w = .ok (.value (str ((l.drop i).take (j - i)))) w := by
  have hs : (⟨l.toArray⟩ : ByteArray).size = l.length := by simp [ByteArray.size]
  have he : (⟨l.toArray⟩ : ByteArray).extract i j = ⟨((l.drop i).take (j - i)).toArray⟩ := by
    apply ByteArray.ext
    have h1 : ((⟨l.toArray⟩ : ByteArray).extract i j).data.toList = (l.drop i).take (j - i) := by rw [Lib.extract_data]
    rw [← h1]
  have key : (Instr.sliceAt t (str l) (lo.map ρ) (hi.map ρ) none).run P w = .ok (str ((l.drop i).take (j - i))) w := by
    have hn : ∀ (n : Nat), (0 : Int) ≤ (n : Int) := fun n => by omega
    unfold str
    rw [← he]
    rcases hlo with ⟨h1, rfl⟩ | ⟨k1, h1⟩ <;> rcases hhi with ⟨h2, rfl⟩ | ⟨k2, h2⟩ <;> rw [h1, h2] <;>
      simp [Instr.sliceAt, Instr.slice, Instr.sliceBounds, Instr.sliceBound, asIntOf, run_underlying ht, hs, hij, hj] <;> first | done | (rw [he]; simp)
  simp only [execOp, hx, Option.map_none, Sem.run_bind, key, Result.andThen_ok, Sem.run_pure]
theorem wpL_sliceStr {t : TypeId} {l m : List UInt8} {lo hi : Option Operand} {i j : Nat} (ht : P.underlying t = some .string) {x : Operand} (hx : a.eval x = str l) (hlo : (lo.map a.eval = none ∧ i = 0) ∨ ∃ k, lo.map a.eval = some (.int k (i : Int))) (hhi : (hi.map a.eval = none ∧ j = l.length) ∨ ∃ k, hi.map a.eval = some (.int k (j : Int))) (hij : i ≤ j) (hj : j ≤ l.length) (hm : (l.drop i).take (j - i) = m)
    (hg : Region.wanted { dst := dst, op := .slice t x lo hi none, type := ty, pos := pos, after := after, guard := guard } (yielded ops a.tmps) = true)
    (h : wpList P ops Q rest (a.put dst (str m)) w) : wpList P ops Q ({ dst := dst, op := .slice t x lo hi none, type := ty, pos := pos, after := after, guard := guard } :: rest) a w := by
  subst hm
  exact wpList_ex hg (ex_sliceStr (ρ := a.eval) ht hx hlo hhi hij hj w) h
theorem wpQ_sliceStr {t : TypeId} {l m : List UInt8} {lo hi : Option Operand} {i j : Nat} (ht : P.underlying t = some .string) {x : Operand} (hx : a.eval x = str l) (hlo : (lo.map a.eval = none ∧ i = 0) ∨ ∃ k, lo.map a.eval = some (.int k (i : Int))) (hhi : (hi.map a.eval = none ∧ j = l.length) ∨ ∃ k, hi.map a.eval = some (.int k (j : Int))) (hij : i ≤ j) (hj : j ≤ l.length) (hm : (l.drop i).take (j - i) = m)
    (hg : Region.wanted { dst := dst, op := .slice t x lo hi none, type := ty, pos := pos, after := after, guard := guard } (yielded ops a.tmps) = true)
    (h : wpQuiet P ops C K rest (a.put dst (str m))) : wpQuiet P ops C K ({ dst := dst, op := .slice t x lo hi none, type := ty, pos := pos, after := after, guard := guard } :: rest) a := by
  subst hm
  exact wpQuiet_ex hg (fun w _ => ex_sliceStr (ρ := a.eval) ht hx hlo hhi hij hj w) h
end
/-- Bytes of a literal, in a region that draws its order. -/
theorem ex_buildB {P : Program} {ρ : Operand → Value} {dst : Option Tmp} {ty : TypeId} {pos : String} {after : Array Edge} {guard : Option (Nat × Bool)} {t : TypeId} (hE : Elem P t 5 1 1) (l : List UInt8) {parts : Array (Nat × Operand)} {n : Nat}
    (hn : n = l.length) (hp : (parts.toList.map fun p => (p.1, ρ p.2)) = ((l.map byt).zipIdx 0).map fun p => (p.2, p.1)) (hb : n ≤ 1000) (w : World) :
    ∃ v w', (execOp ρ { dst := dst, op := .buildSlice t n parts, type := ty, pos := pos, after := after, guard := guard }).run P w = .ok (.value v) w' ∧ Below w.heap.size w w' ∧
      ∀ base, base ≤ w.heap.size → (∃ ao, v = .slice ao n n) ∧ w'.ownsRow base 5 1 v n (l.map byt) := by
  have hv : ∀ v ∈ l.map byt, v.cells.size = 1 := by
    intro v hv
    obtain ⟨x, _, rfl⟩ := List.mem_map.1 hv
    rfl
  have h := run_buildSlice (P := P) hE (l.map byt) hv (by simp; omega) w
  have hx : (l.map byt).flatMap (·.cells.toList) = l.map byt := by
    clear hp hb hv h hn
    induction l with
    | nil => rfl
    | cons x l ih => simp only [List.map_cons, List.flatMap_cons, ih]; rfl
  rw [hx, List.length_map, ← hn] at h
  refine ⟨_, w.alloc (.cells (l.map byt).toArray 5), ?_, below_alloc w _, fun base hbase => ⟨⟨_, rfl⟩, by simp [hn], .inr ⟨w.heap.size, n, _, rfl, hbase, heap_alloc_new w _, Nat.le_refl _, by unfold maxLen; omega, by simp [hn], by rw [hn, Nat.mul_one]; exact List.take_of_length_le (by simp)⟩⟩⟩
  simp only [execOp, Sem.run_bind]
  rw [show (parts.map fun x => match x with | (i, y) => (i, ρ y)) = (parts.toList.map fun p => (p.1, ρ p.2)).toArray by rw [← Array.toList_map, Array.toArray_toList], hp, h]
  rfl
section
variable {P : Program} {w : World} {ρ : Operand → Value} {dst : Option Tmp} {ty : TypeId} {pos : String} {after : Array Edge} {guard : Option (Nat × Bool)}
theorem ex_quoB {t yt : TypeId} {b : UInt8} {n r : Nat} {q : Int} {x y : Operand} (hx : ρ x = byt b) (hy : ρ y = .int .u8 q) (hq : q = (n : Int)) (hn : 0 < n) (hr : b.toNat / n = r) (w : World) :
    (execOp ρ { dst := dst, op := .binOp .quo t x y yt, type := ty, pos := pos, after := after, guard := guard }).run P w = .ok (.value (.int .u8 (r : Int))) w := by
  subst hq hr
  have he : ∀ u v, eqGuard .quo t x y u v = pure () := fun _ _ => rfl
  simp only [execOp, hx, hy, byt, Sem.run_bind, he, Sem.run_pure, Result.andThen_ok, run_quoB t _ n hn b.toNat_lt]
theorem ex_remB {t yt : TypeId} {b : UInt8} {n r : Nat} {q : Int} {x y : Operand} (hx : ρ x = byt b) (hy : ρ y = .int .u8 q) (hq : q = (n : Int)) (hn : 0 < n) (hr : b.toNat % n = r) (w : World) :
    (execOp ρ { dst := dst, op := .binOp .rem t x y yt, type := ty, pos := pos, after := after, guard := guard }).run P w = .ok (.value (.int .u8 (r : Int))) w := by
  subst hq hr
  have he : ∀ u v, eqGuard .rem t x y u v = pure () := fun _ _ => rfl
  simp only [execOp, hx, hy, byt, Sem.run_bind, he, Sem.run_pure, Result.andThen_ok, run_remB t _ n hn]
end
end Go.Proofs.Ytgkfopodhikckaa
/- Join of merkle. No condition. -/
namespace Go.Proofs.Ytgkfopodhikckaa
open Go.RowKit
attribute [local irreducible] wpQuiet wpList
section
variable {P : Program} {w0 w : World} {S : List Nat} {bs bs' : List (Nat × Obj)} {rows : List Row} {ops : Array Oper} {rest : List Oper} {a : Act} {Q : Exit → Act → World → Prop} {ρ : Operand → Value} {dst : Option Tmp} {ty : TypeId} {pos : String} {after : Array Edge} {guard : Option (Nat × Bool)}
theorem ex_i2b {s d : TypeId} {z : TypeDesc} {x : Operand} {k : IntKind} {i : Int} (hs : P.underlying s = some z) (hd : P.underlying d = some (.int .u8)) (hx : ρ x = .int k i) (w : World) :
    (execOp ρ { dst := dst, op := .convert s d x, type := ty, pos := pos, after := after, guard := guard }).run P w = .ok (.value (byt (i2b i))) w := by
  simp only [execOp, hx, Sem.run_bind, run_i2b hs hd, Result.andThen_ok, Sem.run_pure]
theorem ex_sliceArr {t e : TypeId} {n sz : Nat} (ht : P.underlying t = some (.array n e)) (hz : (P.info? e).map (·.size) = some sz) {x : Operand} {g : Nat} (hx : ρ x = .pointer (some ⟨g, 0, none⟩)) (w : World) :
    (execOp ρ { dst := dst, op := .slice t x none none none, type := ty, pos := pos, after := after, guard := guard }).run P w = .ok (.value (.slice (some ⟨g, 0, none⟩) n n)) w := by
  simp [execOp, hx, Instr.sliceAt, Instr.slice, Instr.sliceBounds, Instr.sliceBound, asIntOf, run_underlying ht, run_sizeOf hz, Addr.add, Instr.sureAddr]
theorem wpL_buildP (va vb vc : Value) {parts : Array (Nat × Operand)} (ha : va.cells = #[va]) (hb : vb.cells = #[vb]) (hc : vc.cells = #[vc]) (hp : (parts.toList.map fun p => (p.1, a.eval p.2)) = [(0, va), (1, vb), (2, vc)]) (hH : Holds w0 S bs rows w)
    (hg : Region.wanted { dst := dst, op := .buildSlice 62 3 parts, type := ty, pos := pos, after := after, guard := guard } (yielded ops a.tmps) = true)
    (h : ∀ g w', Holds w0 S bs (⟨.slice (some ⟨g, 0, none⟩) 3 3, 22, 1, 3, [va, vb, vc]⟩ :: rows) w' → wpList Try.prog ops Q rest (a.put dst (.slice (some ⟨g, 0, none⟩) 3 3)) w') :
    wpList Try.prog ops Q ({ dst := dst, op := .buildSlice 62 3 parts, type := ty, pos := pos, after := after, guard := guard } :: rest) a w :=
  wpList_buildSlice kE62 [va, vb, vc] (by intro v hv; simp only [List.mem_cons, List.not_mem_nil, or_false] at hv; rcases hv with rfl | rfl | rfl <;> simp [ha, hb, hc]) (by simp) rfl hp hH (xs := [va, vb, vc]) (by simp [ha, hb, hc]) hg h
end
theorem pcs3 {w w0 : World} {lb : UInt8} {x y : Nd} {g4 g5 g6 gp ca : Nat} {aa : Option Addr} {o : Obj} {rows : List Row} (hx : x.1.length = 16) (hy : y.1.length = 16)
    (h : Holds w0 [] [(g6, o), (g5, objC y.cells 34), (g4, objC x.cells 34)] (⟨.slice (some ⟨gp, 0, none⟩) 3 3, 22, 1, 3, [.slice aa 2 ca, .slice (some ⟨g4, 0, none⟩) 16 16, .slice (some ⟨g5, 0, none⟩) 16 16]⟩ :: ⟨.slice aa 2 ca, 5, 1, 2, [1, lb].map byt⟩ :: rows) w) :
    Pcs w (.slice (some ⟨gp, 0, none⟩) 3 3) [[1, lb], x.1, y.1] := by
  have b0 : Byts w (.slice aa 2 ca) [1, lb] := h.sl1
  have b1 : Byts w (.slice (some ⟨g4, 0, none⟩) 16 16) x.1 := Byts.ofArrAll (x := x) h (.there (.there .here))
  have b2 : Byts w (.slice (some ⟨g5, 0, none⟩) 16 16) y.1 := Byts.ofArrAll (x := y) h (.there .here)
  refine ⟨_, h.sl0, fun i hi => ?_⟩
  match i, hi with
  | 0, _ => exact ⟨_, rfl, b0⟩
  | 1, _ => exact ⟨_, rfl, b1⟩
  | 2, _ => exact ⟨_, rfl, b2⟩
set_option maxRecDepth 100000 in
set_option maxHeartbeats 2000000 in
theorem join_any (w : World) (i : Int) (x y : Nd) : Calls Try.prog 37 #[.int .i64 i, x.val, y.val] w (RetA w (joinN i x y)) := by
  have HH := hid (Holds.init w)
  obtain ⟨lb, hlb⟩ : ∃ lb, i2b i = lb := ⟨_, rfl⟩
  have HLB := hid hlb
  obtain ⟨d, hd⟩ : ∃ d, joinN i x y = d := ⟨_, rfl⟩
  obtain ⟨fl, hfl⟩ : ∃ fl, [[1, lb], x.1, y.1].flatten = fl := ⟨_, rfl⟩
  have HFE := hid hfl
  have HD := hid (show hashN fl = d by rw [← hd, ← hfl, ← hlb]; unfold joinN; simp)
  have HX := hid x.2
  have HY := hid y.2
  have HFL := hid (show fl.length = 34 by rw [← hfl]; simp [x.2, y.2])
  rw [hd]
  clear hd hlb hfl
  go_enter Try.func37, Try.ntmps37
  go_wp2_with (first
    | ((first
        | ((with_reducible apply wpL_skip); rfl; skip)
        | ((with_reducible apply wpL_nilCheck); rfl; rfl)
        | ((with_reducible apply wpL_boxArr (dst := some 4)); rfl; (exact HH.out); rfl; (intro g4_ w_ hq_; (try simp only [List.set_cons_zero, List.set_cons_succ] at hq_); clear HH; have HH := hid hq_; clear hq_))
        | ((with_reducible apply wpL_boxArr (dst := some 5)); rfl; (exact HH.out); rfl; (intro g5_ w_ hq_; (try simp only [List.set_cons_zero, List.set_cons_succ] at hq_); clear HH; have HH := hid hq_; clear hq_))
        | ((with_reducible apply wpL_allocC (dst := some 6) kZ34 HH.out); rfl; (intro g6_ w_ hq_; (try simp only [List.set_cons_zero, List.set_cons_succ] at hq_); clear HH; have HH := hid hq_; clear hq_))
        | ((with_reducible apply wpL_storeArr (t := 34) kS34 HH.out); rfl; rfl; (first | exact .here | exact .there .here | exact .there (.there .here) | exact .there (.there (.there .here)) | exact .there (.there (.there (.there .here))) | exact .there (.there (.there (.there (.there .here)))) | exact .there (.there (.there (.there (.there (.there .here))))) | exact .there (.there (.there (.there (.there (.there (.there .here))))))); (first | rfl | exact Arr.len _ | (simp; done)); rfl; (intro w_ hq_; (try simp only [List.set_cons_zero, List.set_cons_succ] at hq_); clear HH; have HH := hid hq_; clear hq_))
        | ((with_reducible apply wpL_storeC (t := 34)); rfl; rfl; (exact kS34); (exact HH.out); (first | exact .here | exact .there .here | exact .there (.there .here) | exact .there (.there (.there .here)) | exact .there (.there (.there (.there .here))) | exact .there (.there (.there (.there (.there .here)))) | exact .there (.there (.there (.there (.there (.there .here))))) | exact .there (.there (.there (.there (.there (.there (.there .here))))))); (first | rfl | exact Arr.len _ | (simp; done)); (first | rfl | (intro u_ hu_; simp only [List.mem_cons, List.not_mem_nil, or_false] at hu_; rcases hu_ with rfl | hu_; rfl) | exact byt_cell1 _ | exact cells_one _ | exact wrd_one _ | exact flat_cell1 _); (first | rfl | exact Arr.len _ | (simp; done)); rfl; (intro w_ hq_; (try simp only [List.set_cons_zero, List.set_cons_succ] at hq_); clear HH; have HH := hid hq_; clear hq_))
        | ((with_reducible apply wpL_move); rfl; rfl)
        | ((with_reducible apply wpL_assign); rfl; rfl)
        | ((with_reducible apply wpL_pick); rfl; rfl; rfl)
        | ((with_reducible apply wpL_not); rfl; rfl)
        | ((with_reducible apply wpL_cmp (b := true)); rfl; rfl; rfl; (first | rfl | assumption | (simp only [cmpB, decide_eq_true_eq, decide_eq_false_iff_not, beq_iff_eq, bne_iff_ne, ne_eq, beq_eq_false_iff_ne, bne_eq_false_iff_eq, gt_iff_lt, ge_iff_le]; omega) | (simp; omega)); rfl)
        | ((with_reducible apply wpL_cmp (b := false)); rfl; rfl; rfl; (first | rfl | assumption | (simp only [cmpB, decide_eq_true_eq, decide_eq_false_iff_not, beq_iff_eq, bne_iff_ne, ne_eq, beq_eq_false_iff_ne, bne_eq_false_iff_eq, gt_iff_lt, ge_iff_le]; omega) | (simp; omega)); rfl)
        | ((with_reducible apply wpL_cmp); rfl; rfl; rfl; rfl; rfl)
        | ((with_reducible apply wpL_arith); rfl; rfl; rfl; (exact IntWalk.i64_in _ (by (try simp only [arithI]); omega)); rfl)); (try simp only [arithI, Act.put, Act.eval, List.setIfInBounds_toArray, List.set_cons_succ, List.set_cons_zero, Array.getD_eq_getD_getElem?, List.getElem?_toArray, List.getElem?_cons_succ, List.getElem?_cons_zero, Option.getD_some])))
  refine wp_region_tailR 5 [Asr.is (.int .i64 i), Asr.is (byt lb), Asr.full w_.heap.size 5 1 2 ([1, lb].map byt), Asr.is (.slice (some ⟨g4_, 0, none⟩) 16 16), Asr.is (.slice (some ⟨g5_, 0, none⟩) 16 16)] HH.out (by kernel_rfl) (by kernel_rfl) (by kernel_rfl) rfl ?_ ?_
  all_goals simp only [List.take_succ_cons, List.take_zero, List.drop_succ_cons, List.drop_zero]
  · refine eachD_cons ?_ (eachD_cons ?_ (eachD_cons ?_ (eachD_cons ?_ (eachD_cons ?_ (eachD_nil)))))
    · intro a_ w1 hI hF hS
      have e0 : a_.eval (.tmp 0) = (.int .i64 i) := (hF.2.2 0 (notDst_of (by kernel_rfl))).trans rfl
      refine wantD (by rfl) ?_
      exact op_val rfl (ex_move rfl w1) e0
    · intro a_ w1 hI hF hS
      have e7 : a_.eval (.tmp 7) = (.int .i64 i) := hS ⟨0, .data⟩ (by simp) rfl _ rfl
      refine wantD (by rfl) ?_
      exact op_val rfl (ex_i2b Try.underlying3 Try.underlying5 e7 w1) (congrArg byt HLB.out)
    · intro a_ w1 hI hF hS
      have e8 : a_.eval (.tmp 8) = (byt lb) := hS ⟨1, .data⟩ (by simp) rfl _ rfl
      refine wantD (by rfl) ?_
      obtain ⟨v_, w_, hr_, hb_, hA_⟩ := ex_buildB (ρ := a_.eval) kE22 [1, lb] (parts := #[(0, .const (.int .u8 1)), (1, .tmp 8)]) (n := 2) rfl (by show [(0, a_.eval (.const (.int .u8 1))), (1, a_.eval (.tmp 8))] = _; rw [e8]; rfl) (by decide) w1; exact op_new rfl hr_ hb_ (hA_ _ hI.2.size)
    · intro a_ w1 hI hF hS
      have e4 : a_.eval (.tmp 4) = (.pointer (some ⟨g4_, 0, none⟩)) := (hF.2.2 4 (notDst_of (by kernel_rfl))).trans rfl
      refine wantD (by rfl) ?_
      exact op_val rfl (ex_sliceArr Try.underlying34 kS5 e4 w1) rfl
    · intro a_ w1 hI hF hS
      have e5 : a_.eval (.tmp 5) = (.pointer (some ⟨g5_, 0, none⟩)) := (hF.2.2 5 (notDst_of (by kernel_rfl))).trans rfl
      refine wantD (by rfl) ?_
      exact op_val rfl (ex_sliceArr Try.underlying34 kS5 e5 w1) rfl
  intro wq hq_ hb_
  intro v0_ h0_ v1_ h1_ v2_ h2_ v3_ h3_ v4_ h4_
  have q_ : v0_ = (.int .i64 i) := h0_; clear h0_; subst q_
  have q_ : v1_ = (byt lb) := h1_; clear h1_; subst q_
  have K2 := hid h2_; clear h2_
  have q_ : v3_ = (.slice (some ⟨g4_, 0, none⟩) 16 16) := h3_; clear h3_; subst q_
  have q_ : v4_ = (.slice (some ⟨g5_, 0, none⟩) 16 16) := h4_; clear h4_; subst q_
  simp only [endD, putsD, Act.put, List.setIfInBounds_toArray, List.set_cons_succ, List.set_cons_zero]
  have HQ := hid hq_; clear hq_
  have HB_ := hid hb_; clear hb_
  obtain ⟨aa, ca, rfl⟩ := row_shape K2.out.2
  have hq2_ := HH.out.addRow HB_.out K2.out.2
  clear HH HQ K2 HB_
  have HH := hid hq2_
  clear hq2_
  go_wp2_with (first
    | ((first
        | ((with_reducible apply wpL_skip); rfl; skip)
        | ((with_reducible apply wpL_buildP (.slice aa 2 ca) (.slice (some ⟨g4_, 0, none⟩) 16 16) (.slice (some ⟨g5_, 0, none⟩) 16 16) rfl rfl rfl); rfl; (exact HH.out); rfl; (intro gp w_ hq_; clear HH; have HH := hid hq_; clear hq_))
        | (go_at_call 66; (have hcall_ := hid (concat_any _ (.slice (some ⟨gp, 0, none⟩) 3 3) [[1, lb], x.1, y.1] (pcs3 HX.out HY.out HH.out) (by simp) (by rw [HFE.out, HFL.out]; decide) (by rw [HFE.out, HFL.out]; decide))); (with_reducible refine hcall_.out.mono ?_); clear hcall_; rw [HFE.out]; rintro e_ w2_ ⟨ao3, cap3, rfl, hr_, hb_⟩; (have hq_ := HH.out.addRow hb_ hr_); clear HH; have HH := hid hq_; clear hq_ hr_ hb_)
        | (go_at_call 65; (have hcall_ := hid (hash_any _ _ fl HH.out.sl0 (by rw [HFL.out]; decide))); (with_reducible refine hcall_.out.mono ?_); clear hcall_; rw [HD.out]; rintro e_ w2_ ⟨rfl, hb_⟩; (have hq_ := HH.out.grow hb_); clear HH; have HH := hid hq_; clear hq_ hb_)
        | ((with_reducible apply wpL_storeC (t := 34) (vs := d.cells)); rfl; rfl; (exact kS34); (exact HH.out); (exact .here); (exact Arr.len _); (exact cells_one _); (exact Arr.len _); rfl; (intro w_ hq_; clear HH; have HH := hid hq_; clear hq_))
        | ((with_reducible apply wpL_nilCheck); rfl; rfl)
        | ((with_reducible apply wpL_boxArr (dst := some 4)); rfl; (exact HH.out); rfl; (intro g4_ w_ hq_; (try simp only [List.set_cons_zero, List.set_cons_succ] at hq_); clear HH; have HH := hid hq_; clear hq_))
        | ((with_reducible apply wpL_boxArr (dst := some 5)); rfl; (exact HH.out); rfl; (intro g5_ w_ hq_; (try simp only [List.set_cons_zero, List.set_cons_succ] at hq_); clear HH; have HH := hid hq_; clear hq_))
        | ((with_reducible apply wpL_allocC (dst := some 6) kZ34 HH.out); rfl; (intro g6_ w_ hq_; (try simp only [List.set_cons_zero, List.set_cons_succ] at hq_); clear HH; have HH := hid hq_; clear hq_))
        | ((with_reducible apply wpL_storeArr (t := 34) kS34 HH.out); rfl; rfl; (first | exact .here | exact .there .here | exact .there (.there .here) | exact .there (.there (.there .here)) | exact .there (.there (.there (.there .here))) | exact .there (.there (.there (.there (.there .here)))) | exact .there (.there (.there (.there (.there (.there .here))))) | exact .there (.there (.there (.there (.there (.there (.there .here))))))); (first | rfl | exact Arr.len _ | (simp; done)); rfl; (intro w_ hq_; (try simp only [List.set_cons_zero, List.set_cons_succ] at hq_); clear HH; have HH := hid hq_; clear hq_))
        | ((with_reducible apply wpL_storeC (t := 34)); rfl; rfl; (exact kS34); (exact HH.out); (first | exact .here | exact .there .here | exact .there (.there .here) | exact .there (.there (.there .here)) | exact .there (.there (.there (.there .here))) | exact .there (.there (.there (.there (.there .here)))) | exact .there (.there (.there (.there (.there (.there .here))))) | exact .there (.there (.there (.there (.there (.there (.there .here))))))); (first | rfl | exact Arr.len _ | (simp; done)); (first | rfl | (intro u_ hu_; simp only [List.mem_cons, List.not_mem_nil, or_false] at hu_; rcases hu_ with rfl | hu_; rfl) | exact byt_cell1 _ | exact cells_one _ | exact wrd_one _ | exact flat_cell1 _); (first | rfl | exact Arr.len _ | (simp; done)); rfl; (intro w_ hq_; (try simp only [List.set_cons_zero, List.set_cons_succ] at hq_); clear HH; have HH := hid hq_; clear hq_))
        | ((with_reducible apply wpL_move); rfl; rfl)
        | ((with_reducible apply wpL_assign); rfl; rfl)
        | ((with_reducible apply wpL_pick); rfl; rfl; rfl)
        | ((with_reducible apply wpL_not); rfl; rfl)
        | ((with_reducible apply wpL_cmp (b := true)); rfl; rfl; rfl; (first | rfl | assumption | (simp only [cmpB, decide_eq_true_eq, decide_eq_false_iff_not, beq_iff_eq, bne_iff_ne, ne_eq, beq_eq_false_iff_ne, bne_eq_false_iff_eq, gt_iff_lt, ge_iff_le]; omega) | (simp; omega)); rfl)
        | ((with_reducible apply wpL_cmp (b := false)); rfl; rfl; rfl; (first | rfl | assumption | (simp only [cmpB, decide_eq_true_eq, decide_eq_false_iff_not, beq_iff_eq, bne_iff_ne, ne_eq, beq_eq_false_iff_ne, bne_eq_false_iff_eq, gt_iff_lt, ge_iff_le]; omega) | (simp; omega)); rfl)
        | ((with_reducible apply wpL_cmp); rfl; rfl; rfl; rfl; rfl)
        | ((with_reducible apply wpL_arith); rfl; rfl; rfl; (exact IntWalk.i64_in _ (by (try simp only [arithI]); omega)); rfl)); (try simp only [arithI, Act.put, Act.eval, List.setIfInBounds_toArray, List.set_cons_succ, List.set_cons_zero, Array.getD_eq_getD_getElem?, List.getElem?_toArray, List.getElem?_cons_succ, List.getElem?_cons_zero, Option.getD_some])))
  refine bodyPost_ret (res1 rfl (resC kA34 HH.out (by rfl) .here (Arr.len _))) rfl ?_
  exact ⟨rfl, HH.out.below⟩
end Go.Proofs.Ytgkfopodhikckaa
namespace Go.Proofs.Ytgkfopodhikckaa
open Go.RowKit
attribute [local irreducible] wpQuiet wpList
def RjRel (w : World) (pre : List UInt8) (z : Nd) (bs : List (Nat × Obj)) (v i : Value) (wr : World) : Prop :=
  ∃ (k : Nat) (l : List UInt8) (ao : Option Addr) (cap : Nat), k ≤ 16 ∧ i = .int .i64 k ∧ l = pre ++ z.1.take k ∧ v = .slice ao l.length cap ∧ Holds w [] bs [rowB ao cap l] wr
set_option maxRecDepth 100000 in
set_option maxHeartbeats 2000000 in
theorem joinR_any (w : World) (i : Int) (x y : Nd) : Calls Try.prog 47 #[.int .i64 i, x.val, y.val] w (RetA w (joinN i x y)) := by
  have HH := hid (Holds.init w)
  obtain ⟨lb, hlb⟩ : ∃ lb, i2b i = lb := ⟨_, rfl⟩
  have HLB := hid hlb
  obtain ⟨d, hd⟩ : ∃ d, joinN i x y = d := ⟨_, rfl⟩
  have HD := hid (show hashN ([1, lb] ++ x.1 ++ y.1) = d by rw [← hd, ← hlb]; rfl)
  have HX := hid x.2
  have HY := hid y.2
  obtain ⟨p0, hp0⟩ : ∃ p0, [1, lb] = p0 := ⟨_, rfl⟩
  have HP0 := hid hp0
  have HPL := hid (show p0.length = 2 by rw [← hp0]; rfl)
  rw [hp0] at HD
  rw [hd]
  clear hd hlb hp0
  go_enter Try.func47, Try.ntmps47
  go_wp2_with (first
    | ((first
        | ((with_reducible apply wpL_skip); rfl; skip)
        | ((with_reducible apply wpL_i2b (b := lb) Try.underlying3 Try.underlying5); rfl; (exact HLB.out); rfl)
        | ((with_reducible apply wpL_buildB p0); (exact HPL.out.symm); (rw [← HP0.out]; rfl); (exact (by decide)); (exact HH.out); rfl; (intro g_ w_ hq_; simp only [rowB, HPL.out] at hq_; clear HH; have HH := hid hq_; clear hq_))
        | ((with_reducible apply wpL_nilCheck); rfl; rfl)
        | ((with_reducible apply wpL_load1 (t := 5) kO5 HH.out); rfl; (first | exact .here | exact .there .here | exact .there (.there .here) | exact .there (.there (.there .here)) | exact .there (.there (.there (.there .here))) | exact .there (.there (.there (.there (.there .here)))) | exact .there (.there (.there (.there (.there (.there .here))))) | exact .there (.there (.there (.there (.there (.there (.there .here))))))); rfl; rfl)
        | ((with_reducible apply wpL_boxArr (dst := some 4)); rfl; (exact HH.out); rfl; (intro g4_ w_ hq_; (try simp only [List.set_cons_zero, List.set_cons_succ] at hq_); clear HH; have HH := hid hq_; clear hq_))
        | ((with_reducible apply wpL_boxArr (dst := some 5)); rfl; (exact HH.out); rfl; (intro g5_ w_ hq_; (try simp only [List.set_cons_zero, List.set_cons_succ] at hq_); clear HH; have HH := hid hq_; clear hq_))
        | ((with_reducible apply wpL_allocC (dst := some 6) kZ41 HH.out); rfl; (intro g6_ w_ hq_; (try simp only [List.set_cons_zero, List.set_cons_succ] at hq_); clear HH; have HH := hid hq_; clear hq_))
        | ((with_reducible apply wpL_storeArr (t := 41) kS41 HH.out); rfl; rfl; (first | exact .here | exact .there .here | exact .there (.there .here) | exact .there (.there (.there .here)) | exact .there (.there (.there (.there .here))) | exact .there (.there (.there (.there (.there .here)))) | exact .there (.there (.there (.there (.there (.there .here))))) | exact .there (.there (.there (.there (.there (.there (.there .here))))))); (first | rfl | exact Arr.len _ | (simp; done)); rfl; (intro w_ hq_; (try simp only [List.set_cons_zero, List.set_cons_succ] at hq_); clear HH; have HH := hid hq_; clear hq_))
        | ((with_reducible apply wpL_storeC (t := 41)); rfl; rfl; (exact kS41); (exact HH.out); (first | exact .here | exact .there .here | exact .there (.there .here) | exact .there (.there (.there .here)) | exact .there (.there (.there (.there .here))) | exact .there (.there (.there (.there (.there .here)))) | exact .there (.there (.there (.there (.there (.there .here))))) | exact .there (.there (.there (.there (.there (.there (.there .here))))))); (first | rfl | exact Arr.len _ | (simp; done)); (first | rfl | (intro u_ hu_; simp only [List.mem_cons, List.not_mem_nil, or_false] at hu_; rcases hu_ with rfl | hu_; rfl) | exact byt_cell1 _ | exact cells_one _ | exact wrd_one _ | exact flat_cell1 _); (first | rfl | exact Arr.len _ | (simp; done)); rfl; (intro w_ hq_; (try simp only [List.set_cons_zero, List.set_cons_succ] at hq_); clear HH; have HH := hid hq_; clear hq_))
        | ((with_reducible apply wpL_move); rfl; rfl)
        | ((with_reducible apply wpL_assign); rfl; rfl)
        | ((with_reducible apply wpL_pick); rfl; rfl; rfl)
        | ((with_reducible apply wpL_not); rfl; rfl)
        | ((with_reducible apply wpL_cmp (b := true)); rfl; rfl; rfl; (first | rfl | assumption | (simp only [cmpB, decide_eq_true_eq, decide_eq_false_iff_not, beq_iff_eq, bne_iff_ne, ne_eq, beq_eq_false_iff_ne, bne_eq_false_iff_eq, gt_iff_lt, ge_iff_le]; omega) | (simp; omega)); rfl)
        | ((with_reducible apply wpL_cmp (b := false)); rfl; rfl; rfl; (first | rfl | assumption | (simp only [cmpB, decide_eq_true_eq, decide_eq_false_iff_not, beq_iff_eq, bne_iff_ne, ne_eq, beq_eq_false_iff_ne, bne_eq_false_iff_eq, gt_iff_lt, ge_iff_le]; omega) | (simp; omega)); rfl)
        | ((with_reducible apply wpL_cmp); rfl; rfl; rfl; rfl; rfl)
        | ((with_reducible apply wpL_arith); rfl; rfl; rfl; (exact IntWalk.i64_in _ (by (try simp only [arithI]); omega)); rfl)); (try simp only [arithI, Act.put, Act.eval, List.setIfInBounds_toArray, List.set_cons_succ, List.set_cons_zero, Array.getD_eq_getD_getElem?, List.getElem?_toArray, List.getElem?_cons_succ, List.getElem?_cons_zero, Option.getD_some])))
  go_loopw [7, 8] (RjRel w p0 x [(g6_, objC Nd0.cells 41), (g5_, objC y.cells 41), (g4_, objC x.cells 41)]) (fun _ i _ => 16 - (intOf i).toNat)
  case atStart => exact ⟨0, p0, _, _, by omega, rfl, by simp, by rw [HPL.out], by rw [rowB, HPL.out]; exact HH.out⟩
  case round =>
    obtain ⟨k, l, ao1, cap1, hk, rfl, hl, rfl, hr⟩ := hrel
    clear HH
    have HH := hid hr
    have HLK := hid hl
    clear hr
    have hln : l.length ≤ 100 := by rw [hl, List.length_append, List.length_take, HPL.out]; omega
    clear hl
    by_cases hlt : k < 16
    · have hkl : k < x.1.length := by rw [HX.out]; omega
      obtain ⟨c, hc⟩ : ∃ c, x.1.getD k 0 = c := ⟨_, rfl⟩
      have HB := hid (show x.cells[0 + k]? = some (byt c) by rw [← hc, Nat.zero_add]; simp [Arr.cells, hkl])
      obtain ⟨l2, hl2⟩ : ∃ l2, l ++ [c] = l2 := ⟨_, rfl⟩
      have HL2 := hid hl2
      have HST := hid (show l2 = p0 ++ x.1.take (k + 1) by
        rw [← hl2, HLK.out, ← List.take_append_getElem hkl, List.append_assoc]
        simp [← hc, hkl])
      clear hc hl2
      go_wp2_with (first
        | ((first
            | ((with_reducible apply wpL_skip); rfl; skip)
            | ((with_reducible apply wpL_indexV0 (m := k) Try.underlying41 kS5); rfl; rfl; rfl; (exact (by omega)); rfl)
            | ((with_reducible apply wpL_load1 (j := 0 + k) (v := byt c) kO5 HH.out); rfl; (exact .there (.there .here)); (exact HB.out); rfl)
            | ((with_reducible apply wpL_buildB [c]); rfl; rfl; (exact (by decide)); (exact HH.out); rfl; (intro g_ w_ hq_; clear HH; have HH := hid hq_; clear hq_))
            | ((with_reducible apply wpL_appendBr (l := l) (l2 := [c]) (r := l2) HH.out.swap HH.out.sl0 HL2.out); rfl; rfl; (exact (by simp; omega)); rfl; rfl; rfl; (intro ao4 cap4 w_ hq_; clear HH; have HH := hid hq_.dropSnd; clear hq_))
            | ((with_reducible apply wpL_nilCheck); rfl; rfl)
            | ((with_reducible apply wpL_load1 (t := 5) kO5 HH.out); rfl; (first | exact .here | exact .there .here | exact .there (.there .here) | exact .there (.there (.there .here)) | exact .there (.there (.there (.there .here))) | exact .there (.there (.there (.there (.there .here)))) | exact .there (.there (.there (.there (.there (.there .here))))) | exact .there (.there (.there (.there (.there (.there (.there .here))))))); rfl; rfl)
            | ((with_reducible apply wpL_boxArr (dst := some 4)); rfl; (exact HH.out); rfl; (intro g4_ w_ hq_; (try simp only [List.set_cons_zero, List.set_cons_succ] at hq_); clear HH; have HH := hid hq_; clear hq_))
            | ((with_reducible apply wpL_boxArr (dst := some 5)); rfl; (exact HH.out); rfl; (intro g5_ w_ hq_; (try simp only [List.set_cons_zero, List.set_cons_succ] at hq_); clear HH; have HH := hid hq_; clear hq_))
            | ((with_reducible apply wpL_allocC (dst := some 6) kZ41 HH.out); rfl; (intro g6_ w_ hq_; (try simp only [List.set_cons_zero, List.set_cons_succ] at hq_); clear HH; have HH := hid hq_; clear hq_))
            | ((with_reducible apply wpL_storeArr (t := 41) kS41 HH.out); rfl; rfl; (first | exact .here | exact .there .here | exact .there (.there .here) | exact .there (.there (.there .here)) | exact .there (.there (.there (.there .here))) | exact .there (.there (.there (.there (.there .here)))) | exact .there (.there (.there (.there (.there (.there .here))))) | exact .there (.there (.there (.there (.there (.there (.there .here))))))); (first | rfl | exact Arr.len _ | (simp; done)); rfl; (intro w_ hq_; (try simp only [List.set_cons_zero, List.set_cons_succ] at hq_); clear HH; have HH := hid hq_; clear hq_))
            | ((with_reducible apply wpL_storeC (t := 41)); rfl; rfl; (exact kS41); (exact HH.out); (first | exact .here | exact .there .here | exact .there (.there .here) | exact .there (.there (.there .here)) | exact .there (.there (.there (.there .here))) | exact .there (.there (.there (.there (.there .here)))) | exact .there (.there (.there (.there (.there (.there .here))))) | exact .there (.there (.there (.there (.there (.there (.there .here))))))); (first | rfl | exact Arr.len _ | (simp; done)); (first | rfl | (intro u_ hu_; simp only [List.mem_cons, List.not_mem_nil, or_false] at hu_; rcases hu_ with rfl | hu_; rfl) | exact byt_cell1 _ | exact cells_one _ | exact wrd_one _ | exact flat_cell1 _); (first | rfl | exact Arr.len _ | (simp; done)); rfl; (intro w_ hq_; (try simp only [List.set_cons_zero, List.set_cons_succ] at hq_); clear HH; have HH := hid hq_; clear hq_))
            | ((with_reducible apply wpL_move); rfl; rfl)
            | ((with_reducible apply wpL_assign); rfl; rfl)
            | ((with_reducible apply wpL_pick); rfl; rfl; rfl)
            | ((with_reducible apply wpL_not); rfl; rfl)
            | ((with_reducible apply wpL_cmp (b := true)); rfl; rfl; rfl; (first | rfl | assumption | (simp only [cmpB, decide_eq_true_eq, decide_eq_false_iff_not, beq_iff_eq, bne_iff_ne, ne_eq, beq_eq_false_iff_ne, bne_eq_false_iff_eq, gt_iff_lt, ge_iff_le]; omega) | (simp; omega)); rfl)
            | ((with_reducible apply wpL_cmp (b := false)); rfl; rfl; rfl; (first | rfl | assumption | (simp only [cmpB, decide_eq_true_eq, decide_eq_false_iff_not, beq_iff_eq, bne_iff_ne, ne_eq, beq_eq_false_iff_ne, bne_eq_false_iff_eq, gt_iff_lt, ge_iff_le]; omega) | (simp; omega)); rfl)
            | ((with_reducible apply wpL_cmp); rfl; rfl; rfl; rfl; rfl)
            | ((with_reducible apply wpL_arith); rfl; rfl; rfl; (exact IntWalk.i64_in _ (by (try simp only [arithI]); omega)); rfl)); (try simp only [arithI, Act.put, Act.eval, List.setIfInBounds_toArray, List.set_cons_succ, List.set_cons_zero, Array.getD_eq_getD_getElem?, List.getElem?_toArray, List.getElem?_cons_succ, List.getElem?_cons_zero, Option.getD_some])))
      go_roundw
      case rel => exact ⟨k + 1, l2, _, _, by omega, by go_num, HST.out, rfl, HH.out⟩
      case measure => simp [intOf]; omega
    · obtain rfl : k = 16 := by omega
      have HE := hid (show l = p0 ++ x.1 by rw [HLK.out, List.take_of_length_le (by rw [HX.out]; exact Nat.le_refl _)])
      clear HLK
      obtain ⟨p1, hp1⟩ : ∃ p1, p0 ++ x.1 = p1 := ⟨_, rfl⟩
      have HP1 := hid hp1
      have HPL1 := hid (show p1.length = 18 by rw [← hp1, List.length_append, HPL.out, HX.out])
      rw [hp1] at HE HD
      clear hp1
      go_wp2_with (first
        | ((first
            | ((with_reducible apply wpL_skip); rfl; skip)
            | ((with_reducible apply wpL_nilCheck); rfl; rfl)
            | ((with_reducible apply wpL_load1 (t := 5) kO5 HH.out); rfl; (first | exact .here | exact .there .here | exact .there (.there .here) | exact .there (.there (.there .here)) | exact .there (.there (.there (.there .here))) | exact .there (.there (.there (.there (.there .here)))) | exact .there (.there (.there (.there (.there (.there .here))))) | exact .there (.there (.there (.there (.there (.there (.there .here))))))); rfl; rfl)
            | ((with_reducible apply wpL_boxArr (dst := some 4)); rfl; (exact HH.out); rfl; (intro g4_ w_ hq_; (try simp only [List.set_cons_zero, List.set_cons_succ] at hq_); clear HH; have HH := hid hq_; clear hq_))
            | ((with_reducible apply wpL_boxArr (dst := some 5)); rfl; (exact HH.out); rfl; (intro g5_ w_ hq_; (try simp only [List.set_cons_zero, List.set_cons_succ] at hq_); clear HH; have HH := hid hq_; clear hq_))
            | ((with_reducible apply wpL_allocC (dst := some 6) kZ41 HH.out); rfl; (intro g6_ w_ hq_; (try simp only [List.set_cons_zero, List.set_cons_succ] at hq_); clear HH; have HH := hid hq_; clear hq_))
            | ((with_reducible apply wpL_storeArr (t := 41) kS41 HH.out); rfl; rfl; (first | exact .here | exact .there .here | exact .there (.there .here) | exact .there (.there (.there .here)) | exact .there (.there (.there (.there .here))) | exact .there (.there (.there (.there (.there .here)))) | exact .there (.there (.there (.there (.there (.there .here))))) | exact .there (.there (.there (.there (.there (.there (.there .here))))))); (first | rfl | exact Arr.len _ | (simp; done)); rfl; (intro w_ hq_; (try simp only [List.set_cons_zero, List.set_cons_succ] at hq_); clear HH; have HH := hid hq_; clear hq_))
            | ((with_reducible apply wpL_storeC (t := 41)); rfl; rfl; (exact kS41); (exact HH.out); (first | exact .here | exact .there .here | exact .there (.there .here) | exact .there (.there (.there .here)) | exact .there (.there (.there (.there .here))) | exact .there (.there (.there (.there (.there .here)))) | exact .there (.there (.there (.there (.there (.there .here))))) | exact .there (.there (.there (.there (.there (.there (.there .here))))))); (first | rfl | exact Arr.len _ | (simp; done)); (first | rfl | (intro u_ hu_; simp only [List.mem_cons, List.not_mem_nil, or_false] at hu_; rcases hu_ with rfl | hu_; rfl) | exact byt_cell1 _ | exact cells_one _ | exact wrd_one _ | exact flat_cell1 _); (first | rfl | exact Arr.len _ | (simp; done)); rfl; (intro w_ hq_; (try simp only [List.set_cons_zero, List.set_cons_succ] at hq_); clear HH; have HH := hid hq_; clear hq_))
            | ((with_reducible apply wpL_move); rfl; rfl)
            | ((with_reducible apply wpL_assign); rfl; rfl)
            | ((with_reducible apply wpL_pick); rfl; rfl; rfl)
            | ((with_reducible apply wpL_not); rfl; rfl)
            | ((with_reducible apply wpL_cmp (b := true)); rfl; rfl; rfl; (first | rfl | assumption | (simp only [cmpB, decide_eq_true_eq, decide_eq_false_iff_not, beq_iff_eq, bne_iff_ne, ne_eq, beq_eq_false_iff_ne, bne_eq_false_iff_eq, gt_iff_lt, ge_iff_le]; omega) | (simp; omega)); rfl)
            | ((with_reducible apply wpL_cmp (b := false)); rfl; rfl; rfl; (first | rfl | assumption | (simp only [cmpB, decide_eq_true_eq, decide_eq_false_iff_not, beq_iff_eq, bne_iff_ne, ne_eq, beq_eq_false_iff_ne, bne_eq_false_iff_eq, gt_iff_lt, ge_iff_le]; omega) | (simp; omega)); rfl)
            | ((with_reducible apply wpL_cmp); rfl; rfl; rfl; rfl; rfl)
            | ((with_reducible apply wpL_arith); rfl; rfl; rfl; (exact IntWalk.i64_in _ (by (try simp only [arithI]); omega)); rfl)); (try simp only [arithI, Act.put, Act.eval, List.setIfInBounds_toArray, List.set_cons_succ, List.set_cons_zero, Array.getD_eq_getD_getElem?, List.getElem?_toArray, List.getElem?_cons_succ, List.getElem?_cons_zero, Option.getD_some])))
      go_loopw [7, 9] (RjRel w p1 y [(g6_, objC Nd0.cells 41), (g5_, objC y.cells 41), (g4_, objC x.cells 41)]) (fun _ i _ => 16 - (intOf i).toNat)
      case atStart => exact ⟨0, l, _, _, by omega, rfl, by rw [HE.out]; simp, rfl, HH.out⟩
      clear HE
      case round =>
        obtain ⟨k, l, ao1, cap1, hk, rfl, hl, rfl, hr⟩ := hrel
        clear HH
        have HH := hid hr
        have HLK := hid hl
        clear hr
        have hln : l.length ≤ 100 := by rw [hl, List.length_append, List.length_take, HPL1.out]; omega
        clear hl
        by_cases hlt : k < 16
        · have hkl : k < y.1.length := by rw [HY.out]; omega
          obtain ⟨c, hc⟩ : ∃ c, y.1.getD k 0 = c := ⟨_, rfl⟩
          have HB := hid (show y.cells[0 + k]? = some (byt c) by rw [← hc, Nat.zero_add]; simp [Arr.cells, hkl])
          obtain ⟨l2, hl2⟩ : ∃ l2, l ++ [c] = l2 := ⟨_, rfl⟩
          have HL2 := hid hl2
          have HST := hid (show l2 = p1 ++ y.1.take (k + 1) by
            rw [← hl2, HLK.out, ← List.take_append_getElem hkl, List.append_assoc]
            simp [← hc, hkl])
          clear hc hl2
          go_wp2_with (first
            | ((first
                | ((with_reducible apply wpL_skip); rfl; skip)
                | ((with_reducible apply wpL_indexV0 (m := k) Try.underlying41 kS5); rfl; rfl; rfl; (exact (by omega)); rfl)
                | ((with_reducible apply wpL_load1 (j := 0 + k) (v := byt c) kO5 HH.out); rfl; (exact .there .here); (exact HB.out); rfl)
                | ((with_reducible apply wpL_buildB [c]); rfl; rfl; (exact (by decide)); (exact HH.out); rfl; (intro g_ w_ hq_; clear HH; have HH := hid hq_; clear hq_))
                | ((with_reducible apply wpL_appendBr (l := l) (l2 := [c]) (r := l2) HH.out.swap HH.out.sl0 HL2.out); rfl; rfl; (exact (by simp; omega)); rfl; rfl; rfl; (intro ao4 cap4 w_ hq_; clear HH; have HH := hid hq_.dropSnd; clear hq_))
                | ((with_reducible apply wpL_nilCheck); rfl; rfl)
                | ((with_reducible apply wpL_load1 (t := 5) kO5 HH.out); rfl; (first | exact .here | exact .there .here | exact .there (.there .here) | exact .there (.there (.there .here)) | exact .there (.there (.there (.there .here))) | exact .there (.there (.there (.there (.there .here)))) | exact .there (.there (.there (.there (.there (.there .here))))) | exact .there (.there (.there (.there (.there (.there (.there .here))))))); rfl; rfl)
                | ((with_reducible apply wpL_boxArr (dst := some 4)); rfl; (exact HH.out); rfl; (intro g4_ w_ hq_; (try simp only [List.set_cons_zero, List.set_cons_succ] at hq_); clear HH; have HH := hid hq_; clear hq_))
                | ((with_reducible apply wpL_boxArr (dst := some 5)); rfl; (exact HH.out); rfl; (intro g5_ w_ hq_; (try simp only [List.set_cons_zero, List.set_cons_succ] at hq_); clear HH; have HH := hid hq_; clear hq_))
                | ((with_reducible apply wpL_allocC (dst := some 6) kZ41 HH.out); rfl; (intro g6_ w_ hq_; (try simp only [List.set_cons_zero, List.set_cons_succ] at hq_); clear HH; have HH := hid hq_; clear hq_))
                | ((with_reducible apply wpL_storeArr (t := 41) kS41 HH.out); rfl; rfl; (first | exact .here | exact .there .here | exact .there (.there .here) | exact .there (.there (.there .here)) | exact .there (.there (.there (.there .here))) | exact .there (.there (.there (.there (.there .here)))) | exact .there (.there (.there (.there (.there (.there .here))))) | exact .there (.there (.there (.there (.there (.there (.there .here))))))); (first | rfl | exact Arr.len _ | (simp; done)); rfl; (intro w_ hq_; (try simp only [List.set_cons_zero, List.set_cons_succ] at hq_); clear HH; have HH := hid hq_; clear hq_))
                | ((with_reducible apply wpL_storeC (t := 41)); rfl; rfl; (exact kS41); (exact HH.out); (first | exact .here | exact .there .here | exact .there (.there .here) | exact .there (.there (.there .here)) | exact .there (.there (.there (.there .here))) | exact .there (.there (.there (.there (.there .here)))) | exact .there (.there (.there (.there (.there (.there .here))))) | exact .there (.there (.there (.there (.there (.there (.there .here))))))); (first | rfl | exact Arr.len _ | (simp; done)); (first | rfl | (intro u_ hu_; simp only [List.mem_cons, List.not_mem_nil, or_false] at hu_; rcases hu_ with rfl | hu_; rfl) | exact byt_cell1 _ | exact cells_one _ | exact wrd_one _ | exact flat_cell1 _); (first | rfl | exact Arr.len _ | (simp; done)); rfl; (intro w_ hq_; (try simp only [List.set_cons_zero, List.set_cons_succ] at hq_); clear HH; have HH := hid hq_; clear hq_))
                | ((with_reducible apply wpL_move); rfl; rfl)
                | ((with_reducible apply wpL_assign); rfl; rfl)
                | ((with_reducible apply wpL_pick); rfl; rfl; rfl)
                | ((with_reducible apply wpL_not); rfl; rfl)
                | ((with_reducible apply wpL_cmp (b := true)); rfl; rfl; rfl; (first | rfl | assumption | (simp only [cmpB, decide_eq_true_eq, decide_eq_false_iff_not, beq_iff_eq, bne_iff_ne, ne_eq, beq_eq_false_iff_ne, bne_eq_false_iff_eq, gt_iff_lt, ge_iff_le]; omega) | (simp; omega)); rfl)
                | ((with_reducible apply wpL_cmp (b := false)); rfl; rfl; rfl; (first | rfl | assumption | (simp only [cmpB, decide_eq_true_eq, decide_eq_false_iff_not, beq_iff_eq, bne_iff_ne, ne_eq, beq_eq_false_iff_ne, bne_eq_false_iff_eq, gt_iff_lt, ge_iff_le]; omega) | (simp; omega)); rfl)
                | ((with_reducible apply wpL_cmp); rfl; rfl; rfl; rfl; rfl)
                | ((with_reducible apply wpL_arith); rfl; rfl; rfl; (exact IntWalk.i64_in _ (by (try simp only [arithI]); omega)); rfl)); (try simp only [arithI, Act.put, Act.eval, List.setIfInBounds_toArray, List.set_cons_succ, List.set_cons_zero, Array.getD_eq_getD_getElem?, List.getElem?_toArray, List.getElem?_cons_succ, List.getElem?_cons_zero, Option.getD_some])))
          go_roundw
          case rel => exact ⟨k + 1, l2, _, _, by omega, by go_num, HST.out, rfl, HH.out⟩
          case measure => simp [intOf]; omega
        · obtain rfl : k = 16 := by omega
          have HE := hid (show l = p1 ++ y.1 by rw [HLK.out, List.take_of_length_le (by rw [HY.out]; exact Nat.le_refl _)])
          clear HLK
          have HLN := hid (show l.length ≤ 900000 by omega)
          have HD2 := hid (show hashN l = d by rw [HE.out, HD.out])
          go_wp2_with (first
            | ((first
                | ((with_reducible apply wpL_skip); rfl; skip)
                | (go_at_call 72; (have hcall_ := hid (half_any _ _ l HH.out.sl0 HLN.out)); (with_reducible refine hcall_.out.mono ?_); clear hcall_; rw [HD2.out]; rintro e_ w2_ ⟨rfl, hb_⟩; (have hq_ := HH.out.grow hb_); clear HH; have HH := hid hq_; clear hq_ hb_)
                | ((with_reducible apply wpL_storeC (t := 41) (vs := d.cells)); rfl; rfl; (exact kS41); (exact HH.out); (exact .here); (exact Arr.len _); (exact cells_one _); (exact Arr.len _); rfl; (intro w_ hq_; clear HH; have HH := hid hq_; clear hq_))
                | ((with_reducible apply wpL_nilCheck); rfl; rfl)
                | ((with_reducible apply wpL_load1 (t := 5) kO5 HH.out); rfl; (first | exact .here | exact .there .here | exact .there (.there .here) | exact .there (.there (.there .here)) | exact .there (.there (.there (.there .here))) | exact .there (.there (.there (.there (.there .here)))) | exact .there (.there (.there (.there (.there (.there .here))))) | exact .there (.there (.there (.there (.there (.there (.there .here))))))); rfl; rfl)
                | ((with_reducible apply wpL_boxArr (dst := some 4)); rfl; (exact HH.out); rfl; (intro g4_ w_ hq_; (try simp only [List.set_cons_zero, List.set_cons_succ] at hq_); clear HH; have HH := hid hq_; clear hq_))
                | ((with_reducible apply wpL_boxArr (dst := some 5)); rfl; (exact HH.out); rfl; (intro g5_ w_ hq_; (try simp only [List.set_cons_zero, List.set_cons_succ] at hq_); clear HH; have HH := hid hq_; clear hq_))
                | ((with_reducible apply wpL_allocC (dst := some 6) kZ41 HH.out); rfl; (intro g6_ w_ hq_; (try simp only [List.set_cons_zero, List.set_cons_succ] at hq_); clear HH; have HH := hid hq_; clear hq_))
                | ((with_reducible apply wpL_storeArr (t := 41) kS41 HH.out); rfl; rfl; (first | exact .here | exact .there .here | exact .there (.there .here) | exact .there (.there (.there .here)) | exact .there (.there (.there (.there .here))) | exact .there (.there (.there (.there (.there .here)))) | exact .there (.there (.there (.there (.there (.there .here))))) | exact .there (.there (.there (.there (.there (.there (.there .here))))))); (first | rfl | exact Arr.len _ | (simp; done)); rfl; (intro w_ hq_; (try simp only [List.set_cons_zero, List.set_cons_succ] at hq_); clear HH; have HH := hid hq_; clear hq_))
                | ((with_reducible apply wpL_storeC (t := 41)); rfl; rfl; (exact kS41); (exact HH.out); (first | exact .here | exact .there .here | exact .there (.there .here) | exact .there (.there (.there .here)) | exact .there (.there (.there (.there .here))) | exact .there (.there (.there (.there (.there .here)))) | exact .there (.there (.there (.there (.there (.there .here))))) | exact .there (.there (.there (.there (.there (.there (.there .here))))))); (first | rfl | exact Arr.len _ | (simp; done)); (first | rfl | (intro u_ hu_; simp only [List.mem_cons, List.not_mem_nil, or_false] at hu_; rcases hu_ with rfl | hu_; rfl) | exact byt_cell1 _ | exact cells_one _ | exact wrd_one _ | exact flat_cell1 _); (first | rfl | exact Arr.len _ | (simp; done)); rfl; (intro w_ hq_; (try simp only [List.set_cons_zero, List.set_cons_succ] at hq_); clear HH; have HH := hid hq_; clear hq_))
                | ((with_reducible apply wpL_move); rfl; rfl)
                | ((with_reducible apply wpL_assign); rfl; rfl)
                | ((with_reducible apply wpL_pick); rfl; rfl; rfl)
                | ((with_reducible apply wpL_not); rfl; rfl)
                | ((with_reducible apply wpL_cmp (b := true)); rfl; rfl; rfl; (first | rfl | assumption | (simp only [cmpB, decide_eq_true_eq, decide_eq_false_iff_not, beq_iff_eq, bne_iff_ne, ne_eq, beq_eq_false_iff_ne, bne_eq_false_iff_eq, gt_iff_lt, ge_iff_le]; omega) | (simp; omega)); rfl)
                | ((with_reducible apply wpL_cmp (b := false)); rfl; rfl; rfl; (first | rfl | assumption | (simp only [cmpB, decide_eq_true_eq, decide_eq_false_iff_not, beq_iff_eq, bne_iff_ne, ne_eq, beq_eq_false_iff_ne, bne_eq_false_iff_eq, gt_iff_lt, ge_iff_le]; omega) | (simp; omega)); rfl)
                | ((with_reducible apply wpL_cmp); rfl; rfl; rfl; rfl; rfl)
                | ((with_reducible apply wpL_arith); rfl; rfl; rfl; (exact IntWalk.i64_in _ (by (try simp only [arithI]); omega)); rfl)); (try simp only [arithI, Act.put, Act.eval, List.setIfInBounds_toArray, List.set_cons_succ, List.set_cons_zero, Array.getD_eq_getD_getElem?, List.getElem?_toArray, List.getElem?_cons_succ, List.getElem?_cons_zero, Option.getD_some])))
          refine bodyPost_ret (res1 rfl (resC kA41 HH.out (by rfl) .here (Arr.len _))) rfl ?_
          exact ⟨rfl, HH.out.below⟩
end Go.Proofs.Ytgkfopodhikckaa
