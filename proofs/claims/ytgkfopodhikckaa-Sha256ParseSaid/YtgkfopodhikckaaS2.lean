/- rotate, round, plus, initial. No condition. -/
import Derived.Test.YtgkfopodhikckaaS1
set_option linter.unusedSimpArgs false
set_option linter.unusedVariables false
namespace Go.Proofs.Ytgkfopodhikckaa
open Go.RowKit
theorem A115 : AggT Try.prog 115 8 := ⟨_, Try.underlying115, rfl, by kernel_rfl⟩
theorem O105 : OneT Try.prog 105 := ⟨_, Try.underlying105, rfl⟩
theorem S105 : (Try.prog.info? 105).map (·.size) = some 1 := by kernel_rfl
theorem S115 : (Try.prog.info? 115).map (·.size) = some 8 := by kernel_rfl
theorem Z115 : (Try.prog.info? 115).map (·.zero) = some (some (.agg ((List.replicate 8 (0 : W32)).map wrd).toArray)) := by kernel_rfl
theorem F115 (f : Nat) (h : f < 8) : FieldT Try.prog 115 f f := by
  match f, h with
  | 0, _ => exact ⟨_, _, 0, Try.underlying115, rfl, rfl, by kernel_rfl⟩
  | 1, _ => exact ⟨_, _, 0, Try.underlying115, rfl, rfl, by kernel_rfl⟩
  | 2, _ => exact ⟨_, _, 0, Try.underlying115, rfl, rfl, by kernel_rfl⟩
  | 3, _ => exact ⟨_, _, 0, Try.underlying115, rfl, rfl, by kernel_rfl⟩
  | 4, _ => exact ⟨_, _, 0, Try.underlying115, rfl, rfl, by kernel_rfl⟩
  | 5, _ => exact ⟨_, _, 0, Try.underlying115, rfl, rfl, by kernel_rfl⟩
  | 6, _ => exact ⟨_, _, 0, Try.underlying115, rfl, rfl, by kernel_rfl⟩
  | 7, _ => exact ⟨_, _, 0, Try.underlying115, rfl, rfl, by kernel_rfl⟩
theorem B89 : Body Try.prog 89 := ⟨_, _, Try.func89, rfl, rfl⟩
theorem build115 (s : St) (w : World) : (Instr.build 115 #[(0, wrd s.a), (1, wrd s.b), (2, wrd s.c), (3, wrd s.d), (4, wrd s.e), (5, wrd s.f), (6, wrd s.g), (7, wrd s.h)]).run Try.prog w = .ok (valW s.ws) w := by kernel_rfl
def t1f (s : St) (k w : W32) : W32 := s.h + (rotr s.e 6 ^^^ rotr s.e 11 ^^^ rotr s.e 25) + (s.e &&& s.f ^^^ ~~~s.e &&& s.g) + k + w
def t2f (s : St) : W32 := (rotr s.a 2 ^^^ rotr s.a 13 ^^^ rotr s.a 22) + (s.a &&& s.b ^^^ s.a &&& s.c ^^^ s.b &&& s.c)
def roundS (s : St) (k w : W32) : St := ⟨t1f s k w + t2f s, s.a, s.b, s.c, s.d + t1f s k w, s.e, s.f, s.g⟩
def plusS (s o : St) : St := ⟨s.a + o.a, s.b + o.b, s.c + o.c, s.d + o.d, s.e + o.e, s.f + o.f, s.g + o.g, s.h + o.h⟩
def initS : St := ⟨0x6a09e667, 0xbb67ae85, 0x3c6ef372, 0xa54ff53a, 0x510e527f, 0x9b05688c, 0x1f83d9ab, 0x5be0cd19⟩
/-- A call that returns an aggregate of words. -/
def RetL (w : World) (l : List W32) (e : Ending) (w' : World) : Prop := e = .returned (valW l) ∧ Below w.heap.size w w'
set_option maxHeartbeats 1000000 in
theorem rotate_any (w : World) (x : W32) (n : Int) (h1 : 0 < n) (h2 : n < 32) : Calls Try.prog 60 #[wrd x, .int .i64 n] w (RetW w (rotr x n.toNat)) := by
  have HH := hid (Holds.init w)
  have HR := hid (show x >>> n.toNat ||| x <<< (32 - n).toNat = rotr x n.toNat by unfold rotr; rw [show (32 - n).toNat = 32 - n.toNat by omega])
  go_enter Try.func60, Try.ntmps60
  go_wp2
  refine wp_region_holds (by kernel_rfl) (by kernel_rfl) HH.out ?_
  repeat ((first
    | ((with_reducible apply wpQ_skip); rfl; skip)
    | ((with_reducible apply wpQ_wshl (n := 32 - n)); rfl; rfl; (exact ⟨by omega, by omega⟩); rfl)
    | ((with_reducible apply wpQ_wshr (n := n)); rfl; rfl; (exact ⟨by omega, by omega⟩); rfl)
    | ((with_reducible apply wpQ_wop); rfl; rfl; rfl; rfl)
    | ((with_reducible apply wpQ_move); rfl; rfl)
    | ((with_reducible apply wpQ_assign); rfl; rfl)
    | ((with_reducible apply wpQ_pick); rfl; rfl; rfl)
    | ((with_reducible apply wpQ_not); rfl; rfl)
    | ((with_reducible apply wpQ_cmp (b := true)); rfl; rfl; rfl; (first | rfl | assumption | (simp only [cmpB, decide_eq_true_eq, decide_eq_false_iff_not, beq_iff_eq, bne_iff_ne, ne_eq, beq_eq_false_iff_ne, bne_eq_false_iff_eq, gt_iff_lt, ge_iff_le]; omega) | (simp; omega)); rfl)
    | ((with_reducible apply wpQ_cmp (b := false)); rfl; rfl; rfl; (first | rfl | assumption | (simp only [cmpB, decide_eq_true_eq, decide_eq_false_iff_not, beq_iff_eq, bne_iff_ne, ne_eq, beq_eq_false_iff_ne, bne_eq_false_iff_eq, gt_iff_lt, ge_iff_le]; omega) | (simp; omega)); rfl)
    | ((with_reducible apply wpQ_cmp); rfl; rfl; rfl; rfl; rfl)
    | ((with_reducible apply wpQ_arith); rfl; rfl; rfl; (exact IntWalk.i64_in _ (by (try simp only [arithI]); omega)); rfl)); simp only [arithI, Act.put, Act.eval, List.setIfInBounds_toArray, List.set_cons_succ, List.set_cons_zero, Array.getD_eq_getD_getElem?, List.getElem?_toArray, List.getElem?_cons_succ, List.getElem?_cons_zero, Option.getD_some])
  refine wpQuiet_nil ?_
  intro wq hq_
  have HQ := hid hq_
  clear hq_
  go_wp2
  go_ret
  exact RetW.mk HR.out HQ.out.below
set_option maxHeartbeats 1000000 in
theorem initial_any (w : World) : Calls Try.prog 63 #[] w (RetL w initS.ws) := by
  have HH := hid (Holds.init w)
  go_enter Try.func63, Try.ntmps63
  go_wp2_with (first
    | ((with_reducible apply wpL_allocC Z115 HH.out); rfl; (intro g_ w_ hq_; clear HH; have HH := hid hq_; clear hq_))
    | ((with_reducible apply wpList_build (v := valW initS.ws)); go_must (((exact build115 initS); rfl)))
    | ((with_reducible apply wpL_storeC (vs := initS.ws.map wrd) (x := .tmp 0) (sz := 8)); go_must ((rfl; rfl; (exact S115); (exact HH.out); (exact .here); rfl; (exact wrd_one _); rfl; rfl; (intro w_ hq_; clear HH; have HH := hid hq_; clear hq_)))))
  refine bodyPost_ret (res1 rfl (resC A115 HH.out (by rfl) .here rfl)) rfl ?_
  exact ⟨rfl, HH.out.below⟩
set_option maxHeartbeats 1000000 in
theorem plus_any (w : World) (s o : St) : Calls Try.prog 91 #[valW s.ws, valW o.ws] w (RetL w (plusS s o).ws) := by
  have HH := hid (Holds.init w)
  go_enter Try.func91, Try.ntmps91
  go_wp2_with (first
    | ((first
        | ((with_reducible apply wpL_skip); rfl; skip)
        | ((with_reducible apply wpL_boxC (cs := s.ws.map wrd) (x := .tmp 0)); rfl; (exact HH.out); rfl; (intro g_ w_ hq_; clear HH; have HH := hid hq_; clear hq_))
        | ((with_reducible apply wpL_boxC (cs := o.ws.map wrd) (x := .tmp 1)); rfl; (exact HH.out); rfl; (intro g_ w_ hq_; clear HH; have HH := hid hq_; clear hq_))
        | ((with_reducible apply wpL_allocC Z115 HH.out); rfl; (intro g_ w_ hq_; clear HH; have HH := hid hq_; clear hq_))
        | ((with_reducible apply wpL_fieldAddr (t := 115)); (exact F115 _ (by decide)); rfl; rfl)
        | ((with_reducible apply wpL_load1 O105 HH.out); rfl; (first | exact .there .here | exact .there (.there .here)); rfl; rfl)
        | ((with_reducible apply wpL_wop); rfl; rfl; rfl; rfl)
        | ((with_reducible apply wpList_build (v := valW (plusS s o).ws)); go_must (((exact build115 (plusS s o)); rfl)))
        | ((with_reducible apply wpL_storeC (vs := (plusS s o).ws.map wrd) (x := .tmp 4) (sz := 8)); go_must ((rfl; rfl; (exact S115); (exact HH.out); (exact .here); rfl; (exact wrd_one _); rfl; rfl; (intro w_ hq_; clear HH; have HH := hid hq_; clear hq_))))
        | ((with_reducible apply wpL_move); rfl; rfl)
        | ((with_reducible apply wpL_assign); rfl; rfl)
        | ((with_reducible apply wpL_pick); rfl; rfl; rfl)
        | ((with_reducible apply wpL_not); rfl; rfl)
        | ((with_reducible apply wpL_cmp (b := true)); rfl; rfl; rfl; (first | rfl | assumption | (simp only [cmpB, decide_eq_true_eq, decide_eq_false_iff_not, beq_iff_eq, bne_iff_ne, ne_eq, beq_eq_false_iff_ne, bne_eq_false_iff_eq, gt_iff_lt, ge_iff_le]; omega) | (simp; omega)); rfl)
        | ((with_reducible apply wpL_cmp (b := false)); rfl; rfl; rfl; (first | rfl | assumption | (simp only [cmpB, decide_eq_true_eq, decide_eq_false_iff_not, beq_iff_eq, bne_iff_ne, ne_eq, beq_eq_false_iff_ne, bne_eq_false_iff_eq, gt_iff_lt, ge_iff_le]; omega) | (simp; omega)); rfl)
        | ((with_reducible apply wpL_cmp); rfl; rfl; rfl; rfl; rfl)
        | ((with_reducible apply wpL_arith); rfl; rfl; rfl; (exact IntWalk.i64_in _ (by (try simp only [arithI]); omega)); rfl)); (try simp only [arithI, Act.put, Act.eval, List.setIfInBounds_toArray, List.set_cons_succ, List.set_cons_zero, Array.getD_eq_getD_getElem?, List.getElem?_toArray, List.getElem?_cons_succ, List.getElem?_cons_zero, Option.getD_some])))
  refine bodyPost_ret (res1 rfl (resC A115 HH.out (by rfl) .here rfl)) rfl ?_
  exact ⟨rfl, HH.out.below⟩
end Go.Proofs.Ytgkfopodhikckaa
