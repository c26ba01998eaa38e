/- process of sha256: one block. No condition. -/
import Derived.Test.YtgkfopodhikckaaS3
set_option linter.unusedSimpArgs false
set_option linter.unusedVariables false
namespace Go.Proofs.Ytgkfopodhikckaa
open Go.RowKit
def sg0 (x : W32) : W32 := rotr x 7 ^^^ rotr x 18 ^^^ x >>> 3
def sg1 (y : W32) : W32 := rotr y 17 ^^^ rotr y 19 ^^^ y >>> 10
/-- The window after step t. -/
def winUp (l : List W32) (t : Nat) : List W32 :=
  if t < 16 then l else l.set (t % 16) (l.getD (t % 16) 0 + (sg1 (l.getD ((t - 2) % 16) 0) + l.getD ((t - 7) % 16) 0 + sg0 (l.getD ((t - 15) % 16) 0)))
def procN (s : St) (l : List W32) : Nat → St × List W32
  | 0 => (s, l)
  | t + 1 => (roundS (procN s l t).1 (kL.getD t 0) ((winUp (procN s l t).2 t).getD (t % 16) 0), winUp (procN s l t).2 t)
def processS (s : St) (l : List W32) : St := plusS (procN s l 64).1 s
theorem winUp_len (l : List W32) (t : Nat) : (winUp l t).length = l.length := by
  unfold winUp; split <;> simp
theorem procN_len (s : St) (l : List W32) (t : Nat) : (procN s l t).2.length = l.length := by
  induction t with
  | zero => rfl
  | succ t ih => rw [procN, winUp_len, ih]
theorem wget {l : List W32} {m : Nat} (h : m < l.length) : (l.map wrd)[0 + m]? = some (wrd (l.getD m 0)) := by
  rw [Nat.zero_add]; simp [h]
theorem wget0 {l : List W32} {m : Nat} (h : m < l.length) : ((l.map wrd).toArray)[m]? = some (wrd (l.getD m 0)) := by
  simp [h]
theorem run_remN {P : Program} (t : TypeId) (m n : Nat) (hn : 0 < n) (hn2 : n < 1000) (hm : m < 9223372036854775807) (w : World) : (binOp .rem t (.int .i64 (m : Int)) (.int .i64 (n : Int))).run P w = .ok (.int .i64 ((m % n : Nat) : Int)) w := by
  show (Op.intDiv .rem .i64 (m : Int) (n : Int)).run P w = _
  have h0 : ¬ (n : Int) = 0 := by omega
  have h1 : ((m : Int).tmod (n : Int)) = ((m % n : Nat) : Int) := by rw [IntWalk.rem_in _ _ (by omega)]; norm_cast
  simp only [Op.intDiv, h0, if_false, Sem.run_pure, h1]
section
variable {w0 : World} {S : List Nat} {bs : List (Nat × Obj)} {rows : List Row} {ops : Array Oper} {rest : List Oper} {a : Act} {dst : Option Tmp} {ty : TypeId} {pos : String} {after : Array Edge} {guard : Option (Nat × Bool)} {K : Act → Prop} {P : Program} {C : World → Prop}
theorem wpQ_remN {t yt : TypeId} {x y : Operand} {p q : Int} {m n : Nat} (hx : a.eval x = .int .i64 p) (hy : a.eval y = .int .i64 q) (hp : p = (m : Int)) (hq : q = (n : Int)) (hn : 0 < n) (hn2 : n < 1000) (hm : m < 9223372036854775807)
    (hg : Region.wanted { dst := dst, op := .binOp .rem t x y yt, type := ty, pos := pos, after := after, guard := guard } (yielded ops a.tmps) = true)
    (h : wpQuiet P ops C K rest (a.put dst (.int .i64 ((m % n : Nat) : Int)))) : wpQuiet P ops C K ({ dst := dst, op := .binOp .rem t x y yt, type := ty, pos := pos, after := after, guard := guard } :: rest) a := by
  subst hp hq
  refine wpQuiet_ex hg (fun w _ => ?_) h
  have he : ∀ u v, eqGuard .rem t x y u v = pure () := fun _ _ => rfl
  simp only [execOp, hx, hy, Sem.run_bind, he, Sem.run_pure, Result.andThen_ok, run_remN t m n hn hn2 hm]
theorem wpL_remN {t yt : TypeId} {x y : Operand} {p q : Int} {m n : Nat} {w : World} {Q : Exit → Act → World → Prop} (hx : a.eval x = .int .i64 p) (hy : a.eval y = .int .i64 q) (hp : p = (m : Int)) (hq : q = (n : Int)) (hn : 0 < n) (hn2 : n < 1000) (hm : m < 9223372036854775807)
    (hg : Region.wanted { dst := dst, op := .binOp .rem t x y yt, type := ty, pos := pos, after := after, guard := guard } (yielded ops a.tmps) = true)
    (h : wpList P ops Q rest (a.put dst (.int .i64 ((m % n : Nat) : Int))) w) : wpList P ops Q ({ dst := dst, op := .binOp .rem t x y yt, type := ty, pos := pos, after := after, guard := guard } :: rest) a w := by
  subst hp hq
  refine wpList_ex hg ?_ h
  have he : ∀ u v, eqGuard .rem t x y u v = pure () := fun _ _ => rfl
  simp only [execOp, hx, hy, Sem.run_bind, he, Sem.run_pure, Result.andThen_ok, run_remN t m n hn hn2 hm]
theorem B90 : Body Try.prog 90 := ⟨_, _, Try.func90, rfl, rfl⟩
theorem wpQ_round {x y z : Operand} {ats : Array TypeId} {s : St} {p q : W32} (hx : a.eval x = valW s.ws) (hy : a.eval y = wrd p) (hz : a.eval z = wrd q)
    (hg : Region.wanted { dst := dst, op := .call { callee := .value (.func 90), args := #[x, y, z], argTypes := ats }, type := ty, pos := pos, after := after, guard := guard } (yielded ops a.tmps) = true)
    (h : wpQuiet Try.prog ops (fun w' => Holds w0 S bs rows w') K rest (a.put dst (valW (roundS s p q).ws))) :
    wpQuiet Try.prog ops (fun w' => Holds w0 S bs rows w') K ({ dst := dst, op := .call { callee := .value (.func 90), args := #[x, y, z], argTypes := ats }, type := ty, pos := pos, after := after, guard := guard } :: rest) a :=
  wpQ_call B90 (args := #[valW s.ws, wrd p, wrd q]) (by simp [hx, hy, hz]) (fun w hw => (round_any w s p q).mono fun e w' ⟨he, hb⟩ => ⟨he, hw.grow hb⟩) hg h
end
/-- One word of an array variable is written. -/
theorem wpL_storeW {w w0 : World} {S : List Nat} {bs bs' : List (Nat × Obj)} {rows : List Row} {ops : Array Oper} {rest : List Oper} {a : Act} {Q : Exit → Act → World → Prop} {dst : Option Tmp} {ty : TypeId} {pos : String} {after : Array Edge} {guard : Option (Nat × Bool)} {P : Program}
    {t : TypeId} {x y : Operand} {g m : Nat} {l : List W32} {v : W32} {e : TypeId}
    (hx : a.eval x = .pointer (some ⟨g, 0 + m, none⟩)) (hy : a.eval y = wrd v) (hi : (P.info? t).map (·.size) = some 1)
    (hH : Holds w0 S bs rows w) (ht : Turn bs g (objC (l.map wrd) e) (objC ((l.set m v).map wrd) e) bs') (hc : m < l.length)
    (hg : Region.wanted { dst := dst, op := .store t x y, type := ty, pos := pos, after := after, guard := guard } (yielded ops a.tmps) = true)
    (h : ∀ w', Holds w0 S bs' rows w' → wpList P ops Q rest (a.put dst undef) w') :
    wpList P ops Q ({ dst := dst, op := .store t x y, type := ty, pos := pos, after := after, guard := guard } :: rest) a w := by
  rw [Nat.zero_add] at hx
  rw [List.map_set] at ht
  exact wpL_store1 hx hy rfl hi hH ht rfl (by simpa using hc) hg h
theorem A138 : AggT Try.prog 138 16 := ⟨_, Try.underlying138, rfl, by kernel_rfl⟩
def z8 : List Value := (List.replicate 8 (0 : W32)).map wrd
theorem Z115' : (Try.prog.info? 115).map (·.zero) = some (some (.agg z8.toArray)) := Z115
def ProcRel (w : World) (s : St) (l : List W32) (g2 g3 g4 g5 : Nat) (i : Value) (wr : World) : Prop :=
  ∃ t : Nat, t ≤ 64 ∧ i = .int .i64 t ∧ Holds w [] [(g5, objC ((procN s l t).1.ws.map wrd) 115), (g4, objC z8 115), (g3, objC ((procN s l t).2.map wrd) 138), (g2, objC (s.ws.map wrd) 115)] [] wr
set_option maxRecDepth 100000 in
set_option maxHeartbeats 2000000 in
theorem process_any (w : World) (s : St) (l : List W32) (hl : l.length = 16) : Calls Try.prog 79 #[valW s.ws, valW l] w (RetL w (processS s l).ws) := by
  have HH := hid (Holds.init w)
  go_enter Try.func79, Try.ntmps79
  go_wp2_with (first
    | ((first
        | ((with_reducible apply wpL_skip); rfl; skip)
        | ((with_reducible apply wpL_boxC (cs := s.ws.map wrd) (x := .tmp 0)); rfl; (exact HH.out); rfl; (intro g2 w_ hq_; clear HH; have HH := hid hq_; clear hq_))
        | ((with_reducible apply wpL_boxC (cs := l.map wrd) (x := .tmp 1)); rfl; (exact HH.out); rfl; (intro g3 w_ hq_; clear HH; have HH := hid hq_; clear hq_))
        | ((with_reducible apply wpL_allocC (dst := some 4) Z115' HH.out); rfl; (intro g4 w_ hq_; clear HH; have HH := hid hq_; clear hq_))
        | ((with_reducible apply wpL_allocC (dst := some 5) Z115' HH.out); rfl; (intro g5 w_ hq_; clear HH; have HH := hid hq_; clear hq_))
        | ((with_reducible apply wpL_loadC (x := .tmp 2) A115 HH.out); rfl; (exact .there (.there .here)); rfl; rfl)
        | ((with_reducible apply wpL_storeC (vs := s.ws.map wrd) (x := .tmp 5) (sz := 8)); rfl; rfl; (exact S115); (exact HH.out); (exact .here); rfl; (exact wrd_one _); rfl; rfl; (intro w_ hq_; clear HH; have HH := hid hq_; clear hq_))
        | (go_at_call 88; refine (constants_any _).mono ?_; rintro e w2 ⟨rfl, hb⟩; (have hq_ := HH.out.grow hb); clear HH; have HH := hid hq_; clear hq_ hb)
        | ((with_reducible apply wpL_move); rfl; rfl)
        | ((with_reducible apply wpL_assign); rfl; rfl)
        | ((with_reducible apply wpL_pick); rfl; rfl; rfl)
        | ((with_reducible apply wpL_not); rfl; rfl)
        | ((with_reducible apply wpL_cmp (b := true)); rfl; rfl; rfl; (first | rfl | assumption | (simp only [cmpB, decide_eq_true_eq, decide_eq_false_iff_not, beq_iff_eq, bne_iff_ne, ne_eq, beq_eq_false_iff_ne, bne_eq_false_iff_eq, gt_iff_lt, ge_iff_le]; omega) | (simp; omega)); rfl)
        | ((with_reducible apply wpL_cmp (b := false)); rfl; rfl; rfl; (first | rfl | assumption | (simp only [cmpB, decide_eq_true_eq, decide_eq_false_iff_not, beq_iff_eq, bne_iff_ne, ne_eq, beq_eq_false_iff_ne, bne_eq_false_iff_eq, gt_iff_lt, ge_iff_le]; omega) | (simp; omega)); rfl)
        | ((with_reducible apply wpL_cmp); rfl; rfl; rfl; rfl; rfl)
        | ((with_reducible apply wpL_arith); rfl; rfl; rfl; (exact IntWalk.i64_in _ (by (try simp only [arithI]); omega)); rfl)); (try simp only [arithI, Act.put, Act.eval, List.setIfInBounds_toArray, List.set_cons_succ, List.set_cons_zero, Array.getD_eq_getD_getElem?, List.getElem?_toArray, List.getElem?_cons_succ, List.getElem?_cons_zero, Option.getD_some])))
  go_loopw [13] (ProcRel w s l g2 g3 g4 g5) (fun i _ => 64 - (intOf i).toNat)
  case atStart => exact ⟨0, Nat.zero_le _, rfl, HH.out⟩
  case round =>
    obtain ⟨t, ht, rfl, hr⟩ := hrel
    clear HH
    have HH := hid hr
    clear hr
    by_cases hlt : t < 64
    · have hpl : (procN s l t).2.length = 16 := by rw [procN_len]; exact hl
      have hm16 : t % 16 < 16 := Nat.mod_lt _ (by omega)
      have em : ((t : Int) % 16) = ((t % 16 : Nat) : Int) := by omega
      have hk : kL.length = 64 := rfl
      by_cases h16 : t < 16
      · have hup : winUp (procN s l t).2 t = (procN s l t).2 := by unfold winUp; rw [if_pos h16]
        have HU := hid hup
        clear hup
        go_wp2_with (first
          | ((first
              | ((with_reducible apply wpL_skip); rfl; skip)
              | ((with_reducible apply wpL_indexV (m := t) (v := wrd (kL.getD t 0)) Try.underlying107 Try.underlying105 rfl S105); rfl; rfl; rfl; (exact hlt); (exact wget0 (by omega)); rfl)
              | ((with_reducible apply wpL_move); rfl; rfl)
              | ((with_reducible apply wpL_assign); rfl; rfl)
              | ((with_reducible apply wpL_pick); rfl; rfl; rfl)
              | ((with_reducible apply wpL_not); rfl; rfl)
              | ((with_reducible apply wpL_cmp (b := true)); rfl; rfl; rfl; (first | rfl | assumption | (simp only [cmpB, decide_eq_true_eq, decide_eq_false_iff_not, beq_iff_eq, bne_iff_ne, ne_eq, beq_eq_false_iff_ne, bne_eq_false_iff_eq, gt_iff_lt, ge_iff_le]; omega) | (simp; omega)); rfl)
              | ((with_reducible apply wpL_cmp (b := false)); rfl; rfl; rfl; (first | rfl | assumption | (simp only [cmpB, decide_eq_true_eq, decide_eq_false_iff_not, beq_iff_eq, bne_iff_ne, ne_eq, beq_eq_false_iff_ne, bne_eq_false_iff_eq, gt_iff_lt, ge_iff_le]; omega) | (simp; omega)); rfl)
              | ((with_reducible apply wpL_cmp); rfl; rfl; rfl; rfl; rfl)
              | ((with_reducible apply wpL_arith); rfl; rfl; rfl; (exact IntWalk.i64_in _ (by (try simp only [arithI]); omega)); rfl)); (try simp only [arithI, Act.put, Act.eval, List.setIfInBounds_toArray, List.set_cons_succ, List.set_cons_zero, Array.getD_eq_getD_getElem?, List.getElem?_toArray, List.getElem?_cons_succ, List.getElem?_cons_zero, Option.getD_some])))
        refine wp_region_tailQ 6 (by kernel_rfl) (by kernel_rfl) (by kernel_rfl) HH.out ?_
        simp only [List.take_succ_cons, List.take_zero, List.drop_succ_cons, List.drop_zero]
        repeat ((first
          | ((with_reducible apply wpQ_skip); rfl; skip)
          | ((with_reducible apply wpQ_loadC (x := .tmp 5) A115); rfl; (exact .here); rfl; rfl)
          | ((with_reducible apply wpQ_indexVar (m := t % 16) Try.underlying138 S105); rfl; rfl; (first | rfl | exact em); (exact hm16); rfl)
          | ((with_reducible apply wpQ_load1 (v := wrd ((procN s l t).2.getD (t % 16) 0)) O105); rfl; (exact .there (.there .here)); (exact wget (by omega)); rfl)
          | ((with_reducible apply wpQ_round (s := (procN s l t).1)); rfl; rfl; rfl; rfl)
          | ((with_reducible apply wpQ_move); rfl; rfl)
          | ((with_reducible apply wpQ_assign); rfl; rfl)
          | ((with_reducible apply wpQ_pick); rfl; rfl; rfl)
          | ((with_reducible apply wpQ_not); rfl; rfl)
          | ((with_reducible apply wpQ_cmp (b := true)); rfl; rfl; rfl; (first | rfl | assumption | (simp only [cmpB, decide_eq_true_eq, decide_eq_false_iff_not, beq_iff_eq, bne_iff_ne, ne_eq, beq_eq_false_iff_ne, bne_eq_false_iff_eq, gt_iff_lt, ge_iff_le]; omega) | (simp; omega)); rfl)
          | ((with_reducible apply wpQ_cmp (b := false)); rfl; rfl; rfl; (first | rfl | assumption | (simp only [cmpB, decide_eq_true_eq, decide_eq_false_iff_not, beq_iff_eq, bne_iff_ne, ne_eq, beq_eq_false_iff_ne, bne_eq_false_iff_eq, gt_iff_lt, ge_iff_le]; omega) | (simp; omega)); rfl)
          | ((with_reducible apply wpQ_cmp); rfl; rfl; rfl; rfl; rfl)
          | ((with_reducible apply wpQ_arith); rfl; rfl; rfl; (exact IntWalk.i64_in _ (by (try simp only [arithI]); omega)); rfl)); simp only [arithI, Act.put, Act.eval, List.setIfInBounds_toArray, List.set_cons_succ, List.set_cons_zero, Array.getD_eq_getD_getElem?, List.getElem?_toArray, List.getElem?_cons_succ, List.getElem?_cons_zero, Option.getD_some])
        refine wpQuiet_nil ?_
        intro wq hq_
        have HQ := hid hq_
        clear hq_
        clear HH
        have HH := HQ
        clear HQ
        go_wp2_with (first
          | ((first
              | ((with_reducible apply wpL_skip); rfl; skip)
              | ((with_reducible apply wpL_storeC (vs := (roundS (procN s l t).1 (kL.getD t 0) ((procN s l t).2.getD (t % 16) 0)).ws.map wrd) (x := .tmp 5) (sz := 8)); rfl; rfl; (exact S115); (exact HH.out); (exact .here); rfl; (exact wrd_one _); rfl; rfl; (intro w_ hq_; clear HH; have HH := hid hq_; clear hq_))
              | ((with_reducible apply wpL_move); rfl; rfl)
              | ((with_reducible apply wpL_assign); rfl; rfl)
              | ((with_reducible apply wpL_pick); rfl; rfl; rfl)
              | ((with_reducible apply wpL_not); rfl; rfl)
              | ((with_reducible apply wpL_cmp (b := true)); rfl; rfl; rfl; (first | rfl | assumption | (simp only [cmpB, decide_eq_true_eq, decide_eq_false_iff_not, beq_iff_eq, bne_iff_ne, ne_eq, beq_eq_false_iff_ne, bne_eq_false_iff_eq, gt_iff_lt, ge_iff_le]; omega) | (simp; omega)); rfl)
              | ((with_reducible apply wpL_cmp (b := false)); rfl; rfl; rfl; (first | rfl | assumption | (simp only [cmpB, decide_eq_true_eq, decide_eq_false_iff_not, beq_iff_eq, bne_iff_ne, ne_eq, beq_eq_false_iff_ne, bne_eq_false_iff_eq, gt_iff_lt, ge_iff_le]; omega) | (simp; omega)); rfl)
              | ((with_reducible apply wpL_cmp); rfl; rfl; rfl; rfl; rfl)
              | ((with_reducible apply wpL_arith); rfl; rfl; rfl; (exact IntWalk.i64_in _ (by (try simp only [arithI]); omega)); rfl)); (try simp only [arithI, Act.put, Act.eval, List.setIfInBounds_toArray, List.set_cons_succ, List.set_cons_zero, Array.getD_eq_getD_getElem?, List.getElem?_toArray, List.getElem?_cons_succ, List.getElem?_cons_zero, Option.getD_some])))
        go_roundw
        case rel => exact ⟨t + 1, by omega, by go_num, by rw [procN, HU.out]; exact HH.out⟩
        case measure => simp [intOf]; omega
      · have hup : winUp (procN s l t).2 t = (procN s l t).2.set (t % 16) ((procN s l t).2.getD (t % 16) 0 + (sg1 ((procN s l t).2.getD ((t - 2) % 16) 0) + (procN s l t).2.getD ((t - 7) % 16) 0 + sg0 ((procN s l t).2.getD ((t - 15) % 16) 0))) := by unfold winUp; rw [if_neg h16]
        have HU := hid hup
        clear hup
        have h15 : (t - 15) % 16 < 16 := Nat.mod_lt _ (by omega)
        have h2 : (t - 2) % 16 < 16 := Nat.mod_lt _ (by omega)
        have h7 : (t - 7) % 16 < 16 := Nat.mod_lt _ (by omega)
        go_wp2_with (first
          | ((first
              | ((with_reducible apply wpL_skip); rfl; skip)
              | ((with_reducible apply wpL_indexV (m := t) (v := wrd (kL.getD t 0)) Try.underlying107 Try.underlying105 rfl S105); rfl; rfl; rfl; (exact hlt); (exact wget0 (by omega)); rfl)
              | ((with_reducible apply wpL_move); rfl; rfl)
              | ((with_reducible apply wpL_assign); rfl; rfl)
              | ((with_reducible apply wpL_pick); rfl; rfl; rfl)
              | ((with_reducible apply wpL_not); rfl; rfl)
              | ((with_reducible apply wpL_cmp (b := true)); rfl; rfl; rfl; (first | rfl | assumption | (simp only [cmpB, decide_eq_true_eq, decide_eq_false_iff_not, beq_iff_eq, bne_iff_ne, ne_eq, beq_eq_false_iff_ne, bne_eq_false_iff_eq, gt_iff_lt, ge_iff_le]; omega) | (simp; omega)); rfl)
              | ((with_reducible apply wpL_cmp (b := false)); rfl; rfl; rfl; (first | rfl | assumption | (simp only [cmpB, decide_eq_true_eq, decide_eq_false_iff_not, beq_iff_eq, bne_iff_ne, ne_eq, beq_eq_false_iff_ne, bne_eq_false_iff_eq, gt_iff_lt, ge_iff_le]; omega) | (simp; omega)); rfl)
              | ((with_reducible apply wpL_cmp); rfl; rfl; rfl; rfl; rfl)
              | ((with_reducible apply wpL_arith); rfl; rfl; rfl; (exact IntWalk.i64_in _ (by (try simp only [arithI]); omega)); rfl)); (try simp only [arithI, Act.put, Act.eval, List.setIfInBounds_toArray, List.set_cons_succ, List.set_cons_zero, Array.getD_eq_getD_getElem?, List.getElem?_toArray, List.getElem?_cons_succ, List.getElem?_cons_zero, Option.getD_some])))
        refine wp_region_holds (by kernel_rfl) (by kernel_rfl) HH.out ?_
        repeat ((first
          | ((with_reducible apply wpQ_skip); rfl; skip)
          | ((with_reducible apply wpQ_remN (x := .tmp 22) (m := t - 15) (n := 16)); rfl; rfl; (exact (by omega)); rfl; (exact (by omega)); (exact (by omega)); (exact (by omega)); rfl)
          | ((with_reducible apply wpQ_remN (x := .tmp 27) (m := t - 2) (n := 16)); rfl; rfl; (exact (by omega)); rfl; (exact (by omega)); (exact (by omega)); (exact (by omega)); rfl)
          | ((with_reducible apply wpQ_indexVar (i := .tmp 23) (m := (t - 15) % 16) Try.underlying138 S105); rfl; rfl; rfl; (exact h15); rfl)
          | ((with_reducible apply wpQ_indexVar (i := .tmp 28) (m := (t - 2) % 16) Try.underlying138 S105); rfl; rfl; rfl; (exact h2); rfl)
          | ((with_reducible apply wpQ_load1 (x := .tmp 24) (v := wrd ((procN s l t).2.getD ((t - 15) % 16) 0)) O105); rfl; (exact .there (.there .here)); (exact wget (by omega)); rfl)
          | ((with_reducible apply wpQ_load1 (x := .tmp 29) (v := wrd ((procN s l t).2.getD ((t - 2) % 16) 0)) O105); rfl; (exact .there (.there .here)); (exact wget (by omega)); rfl)
          | ((with_reducible apply wpQ_move); rfl; rfl)
          | ((with_reducible apply wpQ_assign); rfl; rfl)
          | ((with_reducible apply wpQ_pick); rfl; rfl; rfl)
          | ((with_reducible apply wpQ_not); rfl; rfl)
          | ((with_reducible apply wpQ_cmp (b := true)); rfl; rfl; rfl; (first | rfl | assumption | (simp only [cmpB, decide_eq_true_eq, decide_eq_false_iff_not, beq_iff_eq, bne_iff_ne, ne_eq, beq_eq_false_iff_ne, bne_eq_false_iff_eq, gt_iff_lt, ge_iff_le]; omega) | (simp; omega)); rfl)
          | ((with_reducible apply wpQ_cmp (b := false)); rfl; rfl; rfl; (first | rfl | assumption | (simp only [cmpB, decide_eq_true_eq, decide_eq_false_iff_not, beq_iff_eq, bne_iff_ne, ne_eq, beq_eq_false_iff_ne, bne_eq_false_iff_eq, gt_iff_lt, ge_iff_le]; omega) | (simp; omega)); rfl)
          | ((with_reducible apply wpQ_cmp); rfl; rfl; rfl; rfl; rfl)
          | ((with_reducible apply wpQ_arith); rfl; rfl; rfl; (exact IntWalk.i64_in _ (by (try simp only [arithI]); omega)); rfl)); simp only [arithI, Act.put, Act.eval, List.setIfInBounds_toArray, List.set_cons_succ, List.set_cons_zero, Array.getD_eq_getD_getElem?, List.getElem?_toArray, List.getElem?_cons_succ, List.getElem?_cons_zero, Option.getD_some])
        refine wpQuiet_nil ?_
        intro wq hq_
        have HQ := hid hq_
        clear hq_
        clear HH
        have HH := HQ
        clear HQ
        go_wp2
        refine wp_region_tailQ 28 (by kernel_rfl) (by kernel_rfl) (by kernel_rfl) HH.out ?_
        simp only [List.take_succ_cons, List.take_zero, List.drop_succ_cons, List.drop_zero]
        repeat ((first
          | ((with_reducible apply wpQ_skip); rfl; skip)
          | ((with_reducible apply wpQ_remN (x := .tmp 43) (m := t - 7) (n := 16)); rfl; rfl; (exact (by omega)); rfl; (exact (by omega)); (exact (by omega)); (exact (by omega)); rfl)
          | ((with_reducible apply wpQ_indexVar (i := .tmp 31) (m := t % 16) Try.underlying138 S105); rfl; rfl; (first | rfl | exact em); (exact hm16); rfl)
          | ((with_reducible apply wpQ_indexVar (i := .tmp 44) (m := (t - 7) % 16) Try.underlying138 S105); rfl; rfl; rfl; (exact h7); rfl)
          | ((with_reducible apply wpQ_load1 (x := .tmp 32) (v := wrd ((procN s l t).2.getD (t % 16) 0)) O105); rfl; (exact .there (.there .here)); (exact wget (by omega)); rfl)
          | ((with_reducible apply wpQ_load1 (x := .tmp 45) (v := wrd ((procN s l t).2.getD ((t - 7) % 16) 0)) O105); rfl; (exact .there (.there .here)); (exact wget (by omega)); rfl)
          | ((with_reducible apply wpQ_right); rfl; rfl; (unfold rotN; decide); rfl)
          | ((with_reducible apply wpQ_wop); rfl; rfl; rfl; rfl)
          | ((with_reducible apply wpQ_wshr); rfl; rfl; (exact (by decide)); rfl)
          | ((with_reducible apply wpQ_move); rfl; rfl)
          | ((with_reducible apply wpQ_assign); rfl; rfl)
          | ((with_reducible apply wpQ_pick); rfl; rfl; rfl)
          | ((with_reducible apply wpQ_not); rfl; rfl)
          | ((with_reducible apply wpQ_cmp (b := true)); rfl; rfl; rfl; (first | rfl | assumption | (simp only [cmpB, decide_eq_true_eq, decide_eq_false_iff_not, beq_iff_eq, bne_iff_ne, ne_eq, beq_eq_false_iff_ne, bne_eq_false_iff_eq, gt_iff_lt, ge_iff_le]; omega) | (simp; omega)); rfl)
          | ((with_reducible apply wpQ_cmp (b := false)); rfl; rfl; rfl; (first | rfl | assumption | (simp only [cmpB, decide_eq_true_eq, decide_eq_false_iff_not, beq_iff_eq, bne_iff_ne, ne_eq, beq_eq_false_iff_ne, bne_eq_false_iff_eq, gt_iff_lt, ge_iff_le]; omega) | (simp; omega)); rfl)
          | ((with_reducible apply wpQ_cmp); rfl; rfl; rfl; rfl; rfl)
          | ((with_reducible apply wpQ_arith); rfl; rfl; rfl; (exact IntWalk.i64_in _ (by (try simp only [arithI]); omega)); rfl)); simp only [arithI, Act.put, Act.eval, List.setIfInBounds_toArray, List.set_cons_succ, List.set_cons_zero, Array.getD_eq_getD_getElem?, List.getElem?_toArray, List.getElem?_cons_succ, List.getElem?_cons_zero, Option.getD_some])
        refine wpQuiet_nil ?_
        intro wq hq_
        have HQ := hid hq_
        clear hq_
        clear HH
        have HH := HQ
        clear HQ
        go_wp2_with (first
          | ((first
              | ((with_reducible apply wpL_skip); rfl; skip)
              | ((with_reducible apply wpL_storeW (l := (procN s l t).2) (m := t % 16) (v := (procN s l t).2.getD (t % 16) 0 + (sg1 ((procN s l t).2.getD ((t - 2) % 16) 0) + (procN s l t).2.getD ((t - 7) % 16) 0 + sg0 ((procN s l t).2.getD ((t - 15) % 16) 0)))); rfl; rfl; (exact S105); (exact HH.out); (exact .there (.there .here)); (exact (by omega)); rfl; (intro w_ hq_; (have hq2_ : Holds w [] [(g5, objC ((procN s l t).1.ws.map wrd) 115), (g4, objC z8 115), (g3, objC ((winUp (procN s l t).2 t).map wrd) 138), (g2, objC (s.ws.map wrd) 115)] [] w_ := by rw [HU.out]; exact hq_); clear HH hq_; have HH := hid hq2_; clear hq2_))
              | ((with_reducible apply wpL_move); rfl; rfl)
              | ((with_reducible apply wpL_assign); rfl; rfl)
              | ((with_reducible apply wpL_pick); rfl; rfl; rfl)
              | ((with_reducible apply wpL_not); rfl; rfl)
              | ((with_reducible apply wpL_cmp (b := true)); rfl; rfl; rfl; (first | rfl | assumption | (simp only [cmpB, decide_eq_true_eq, decide_eq_false_iff_not, beq_iff_eq, bne_iff_ne, ne_eq, beq_eq_false_iff_ne, bne_eq_false_iff_eq, gt_iff_lt, ge_iff_le]; omega) | (simp; omega)); rfl)
              | ((with_reducible apply wpL_cmp (b := false)); rfl; rfl; rfl; (first | rfl | assumption | (simp only [cmpB, decide_eq_true_eq, decide_eq_false_iff_not, beq_iff_eq, bne_iff_ne, ne_eq, beq_eq_false_iff_ne, bne_eq_false_iff_eq, gt_iff_lt, ge_iff_le]; omega) | (simp; omega)); rfl)
              | ((with_reducible apply wpL_cmp); rfl; rfl; rfl; rfl; rfl)
              | ((with_reducible apply wpL_arith); rfl; rfl; rfl; (exact IntWalk.i64_in _ (by (try simp only [arithI]); omega)); rfl)); (try simp only [arithI, Act.put, Act.eval, List.setIfInBounds_toArray, List.set_cons_succ, List.set_cons_zero, Array.getD_eq_getD_getElem?, List.getElem?_toArray, List.getElem?_cons_succ, List.getElem?_cons_zero, Option.getD_some])))
        have hwl : (winUp (procN s l t).2 t).length = 16 := by rw [winUp_len]; exact hpl
        refine wp_region_tailQ 6 (by kernel_rfl) (by kernel_rfl) (by kernel_rfl) HH.out ?_
        simp only [List.take_succ_cons, List.take_zero, List.drop_succ_cons, List.drop_zero]
        repeat ((first
          | ((with_reducible apply wpQ_skip); rfl; skip)
          | ((with_reducible apply wpQ_loadC (x := .tmp 5) A115); rfl; (exact .here); rfl; rfl)
          | ((with_reducible apply wpQ_indexVar (m := t % 16) Try.underlying138 S105); rfl; rfl; (first | rfl | exact em); (exact hm16); rfl)
          | ((with_reducible apply wpQ_load1 (v := wrd ((winUp (procN s l t).2 t).getD (t % 16) 0)) O105); rfl; (exact .there (.there .here)); (exact wget (by omega)); rfl)
          | ((with_reducible apply wpQ_round (s := (procN s l t).1)); rfl; rfl; rfl; rfl)
          | ((with_reducible apply wpQ_move); rfl; rfl)
          | ((with_reducible apply wpQ_assign); rfl; rfl)
          | ((with_reducible apply wpQ_pick); rfl; rfl; rfl)
          | ((with_reducible apply wpQ_not); rfl; rfl)
          | ((with_reducible apply wpQ_cmp (b := true)); rfl; rfl; rfl; (first | rfl | assumption | (simp only [cmpB, decide_eq_true_eq, decide_eq_false_iff_not, beq_iff_eq, bne_iff_ne, ne_eq, beq_eq_false_iff_ne, bne_eq_false_iff_eq, gt_iff_lt, ge_iff_le]; omega) | (simp; omega)); rfl)
          | ((with_reducible apply wpQ_cmp (b := false)); rfl; rfl; rfl; (first | rfl | assumption | (simp only [cmpB, decide_eq_true_eq, decide_eq_false_iff_not, beq_iff_eq, bne_iff_ne, ne_eq, beq_eq_false_iff_ne, bne_eq_false_iff_eq, gt_iff_lt, ge_iff_le]; omega) | (simp; omega)); rfl)
          | ((with_reducible apply wpQ_cmp); rfl; rfl; rfl; rfl; rfl)
          | ((with_reducible apply wpQ_arith); rfl; rfl; rfl; (exact IntWalk.i64_in _ (by (try simp only [arithI]); omega)); rfl)); simp only [arithI, Act.put, Act.eval, List.setIfInBounds_toArray, List.set_cons_succ, List.set_cons_zero, Array.getD_eq_getD_getElem?, List.getElem?_toArray, List.getElem?_cons_succ, List.getElem?_cons_zero, Option.getD_some])
        refine wpQuiet_nil ?_
        intro wq hq_
        have HQ := hid hq_
        clear hq_
        clear HH
        have HH := HQ
        clear HQ
        go_wp2_with (first
          | ((first
              | ((with_reducible apply wpL_skip); rfl; skip)
              | ((with_reducible apply wpL_storeC (vs := (roundS (procN s l t).1 (kL.getD t 0) ((winUp (procN s l t).2 t).getD (t % 16) 0)).ws.map wrd) (x := .tmp 5) (sz := 8)); rfl; rfl; (exact S115); (exact HH.out); (exact .here); rfl; (exact wrd_one _); rfl; rfl; (intro w_ hq_; clear HH; have HH := hid hq_; clear hq_))
              | ((with_reducible apply wpL_move); rfl; rfl)
              | ((with_reducible apply wpL_assign); rfl; rfl)
              | ((with_reducible apply wpL_pick); rfl; rfl; rfl)
              | ((with_reducible apply wpL_not); rfl; rfl)
              | ((with_reducible apply wpL_cmp (b := true)); rfl; rfl; rfl; (first | rfl | assumption | (simp only [cmpB, decide_eq_true_eq, decide_eq_false_iff_not, beq_iff_eq, bne_iff_ne, ne_eq, beq_eq_false_iff_ne, bne_eq_false_iff_eq, gt_iff_lt, ge_iff_le]; omega) | (simp; omega)); rfl)
              | ((with_reducible apply wpL_cmp (b := false)); rfl; rfl; rfl; (first | rfl | assumption | (simp only [cmpB, decide_eq_true_eq, decide_eq_false_iff_not, beq_iff_eq, bne_iff_ne, ne_eq, beq_eq_false_iff_ne, bne_eq_false_iff_eq, gt_iff_lt, ge_iff_le]; omega) | (simp; omega)); rfl)
              | ((with_reducible apply wpL_cmp); rfl; rfl; rfl; rfl; rfl)
              | ((with_reducible apply wpL_arith); rfl; rfl; rfl; (exact IntWalk.i64_in _ (by (try simp only [arithI]); omega)); rfl)); (try simp only [arithI, Act.put, Act.eval, List.setIfInBounds_toArray, List.set_cons_succ, List.set_cons_zero, Array.getD_eq_getD_getElem?, List.getElem?_toArray, List.getElem?_cons_succ, List.getElem?_cons_zero, Option.getD_some])))
        go_roundw
        case rel => exact ⟨t + 1, by omega, by go_num, by rw [procN]; exact HH.out⟩
        case measure => simp [intOf]; omega
    · have ht64 : t = 64 := by omega
      have HT := hid ht64
      clear ht64
      go_wp2_with (first
        | ((first
            | ((with_reducible apply wpL_skip); rfl; skip)
            | ((with_reducible apply wpL_loadC (x := .tmp 5) A115 HH.out); rfl; (exact .here); rfl; rfl)
            | ((with_reducible apply wpL_loadC (x := .tmp 2) A115 HH.out); rfl; (exact .there (.there (.there .here))); rfl; rfl)
            | (go_at_call 91; (refine (plus_any _ (procN s l t).1 s).mono ?_); rintro e w2 ⟨rfl, hb⟩; (have hq_ := HH.out.grow hb); clear HH; have HH := hid hq_; clear hq_ hb)
            | ((with_reducible apply wpL_storeC (vs := (plusS (procN s l t).1 s).ws.map wrd) (x := .tmp 4) (sz := 8)); rfl; rfl; (exact S115); (exact HH.out); (exact .there .here); rfl; (exact wrd_one _); rfl; rfl; (intro w_ hq_; clear HH; have HH := hid hq_; clear hq_))
            | ((with_reducible apply wpL_move); rfl; rfl)
            | ((with_reducible apply wpL_assign); rfl; rfl)
            | ((with_reducible apply wpL_pick); rfl; rfl; rfl)
            | ((with_reducible apply wpL_not); rfl; rfl)
            | ((with_reducible apply wpL_cmp (b := true)); rfl; rfl; rfl; (first | rfl | assumption | (simp only [cmpB, decide_eq_true_eq, decide_eq_false_iff_not, beq_iff_eq, bne_iff_ne, ne_eq, beq_eq_false_iff_ne, bne_eq_false_iff_eq, gt_iff_lt, ge_iff_le]; omega) | (simp; omega)); rfl)
            | ((with_reducible apply wpL_cmp (b := false)); rfl; rfl; rfl; (first | rfl | assumption | (simp only [cmpB, decide_eq_true_eq, decide_eq_false_iff_not, beq_iff_eq, bne_iff_ne, ne_eq, beq_eq_false_iff_ne, bne_eq_false_iff_eq, gt_iff_lt, ge_iff_le]; omega) | (simp; omega)); rfl)
            | ((with_reducible apply wpL_cmp); rfl; rfl; rfl; rfl; rfl)
            | ((with_reducible apply wpL_arith); rfl; rfl; rfl; (exact IntWalk.i64_in _ (by (try simp only [arithI]); omega)); rfl)); (try simp only [arithI, Act.put, Act.eval, List.setIfInBounds_toArray, List.set_cons_succ, List.set_cons_zero, Array.getD_eq_getD_getElem?, List.getElem?_toArray, List.getElem?_cons_succ, List.getElem?_cons_zero, Option.getD_some])))
      obtain rfl : t = 64 := HT.out
      refine bodyPost_ret (res1 rfl (resC A115 HH.out (by rfl) (.there .here) rfl)) rfl ?_
      exact ⟨rfl, HH.out.below⟩
end Go.Proofs.Ytgkfopodhikckaa
