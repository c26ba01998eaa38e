/- The row MerkleForged. No condition. -/
import Derived.Test.YtgkfopodhikckaaQb3e3123
set_option linter.unusedSimpArgs false
set_option linter.unusedVariables false
/- A changed leaf or path is rejected or yields a collision, plainly. Condition: at most ten levels. -/
namespace Go.Proofs.Ytgkfopodhikckaa
open Go.RowKit
theorem topD_spec (f g : Nat → Arr 32) : ∀ n, (topD f g n = (0, zP, zP) ∧ ∀ j, j < n → f j = g j) ∨
    (∃ m, m < n ∧ topD f g n = (((m + 1 : Nat) : Int), f m, g m) ∧ f m ≠ g m ∧ ∀ j, m < j → j < n → f j = g j)
  | 0 => .inl ⟨rfl, fun j h => by omega⟩
  | n + 1 => by
    rw [topD]
    by_cases e : g n = f n
    · rw [if_pos e]
      rcases topD_spec f g n with ⟨h1, h2⟩ | ⟨m, hm, h1, h2, h3⟩
      · exact .inl ⟨h1, fun j hj => by
          by_cases hjn : j = n
          · rw [hjn, e]
          · exact h2 j (by omega)⟩
      · exact .inr ⟨m, by omega, h1, h2, fun j h4 h5 => by
          by_cases hjn : j = n
          · rw [hjn, e]
          · exact h3 j h4 (by omega)⟩
    · rw [if_neg e]
      exact .inr ⟨n, by omega, rfl, fun h => e h.symm, fun j h4 h5 => by omega⟩
theorem jn_inj {x y x' y' : Nd} (h : jn x y = jn x' y') : x = x' ∧ y = y' := by
  have h1 := jn_eq x y x' y'
  rw [h, beq_self_eq_true] at h1
  have h2 := h1.symm
  rw [Bool.and_eq_true, beq_iff_eq, beq_iff_eq] at h2
  exact h2
theorem pairA_inj {i j : Nat} {y x : Nd} {p q : List Nd} (h : pairA i y p j = pairA i x q j) : curAt i y p j = curAt i x q j ∧ p.getD j Nd0 = q.getD j Nd0 := by
  unfold pairA pairC at h
  split at h
  · have := jn_inj h; exact ⟨this.2, this.1⟩
  · exact jn_inj h
theorem forged {k n : Nat} {y x : Nd} {p q : List Nd} (hp : p.length = n) (hq : q.length = n) (hroot : curAt k y p n = curAt k x q n) :
    (x = y ∧ q = p → topD (pairA k y p) (pairA k x q) n = (0, zP, zP)) ∧
    (¬ (x = y ∧ q = p) → ∃ (lv : Int) (A0 A1 B0 B1 : Nd), topD (pairA k y p) (pairA k x q) n = (lv, jn A0 A1, jn B0 B1) ∧ 0 < lv ∧ jn A0 A1 ≠ jn B0 B1 ∧ joinN lv A0 A1 = joinN lv B0 B1) := by
  refine ⟨?_, fun hne => ?_⟩
  · rintro ⟨rfl, rfl⟩
    rcases topD_spec (pairA k x q) (pairA k x q) n with ⟨h1, _⟩ | ⟨m, _, _, h2, _⟩
    · exact h1
    · exact absurd rfl h2
  · rcases topD_spec (pairA k y p) (pairA k x q) n with ⟨_, h2⟩ | ⟨m, hm, h1, h2, h3⟩
    · exfalso
      apply hne
      refine ⟨?_, ?_⟩
      · cases n with
        | zero => exact hroot.symm
        | succ n => exact ((pairA_inj (h2 0 (by omega))).1).symm
      · apply List.ext_getElem (by rw [hp, hq])
        intro j hj1 hj2
        have h4 := (pairA_inj (h2 j (by omega))).2
        simpa [hj1, hj2] using h4.symm
    · have hnext : curAt k y p (m + 1) = curAt k x q (m + 1) := by
        by_cases hmn : m + 1 = n
        · rw [hmn]; exact hroot
        · exact (pairA_inj (h3 (m + 1) (by omega) (by omega))).1
      rw [curAt_succ, curAt_succ] at hnext
      refine ⟨_, _, _, _, _, h1, by omega, h2, ?_⟩
      exact hnext
/-- In the law's words. -/
theorem forged_law {l : List Nd} {k : Nat} {x : Nd} {q : List Nd} (hc : checkC l.length = 0) (hk : k < l.length) (hq : q.length = (pathV l k).length) (hv : verB (rootV l) x k q = true) :
    collV (k : Int) (l.getD k Nd0) (pathV l k) x q = topD (pairA k (l.getD k Nd0) (pathV l k)) (pairA k x q) q.length ∧ curAt k (l.getD k Nd0) (pathV l k) q.length = curAt k x q q.length ∧ q.length ≤ 10 := by
  have hver := (ver_path hc hk).2
  unfold verB at hv hver
  simp only [Bool.and_eq_true, beq_iff_eq] at hv hver
  have hok : collOK (k : Int) (l.getD k Nd0) (pathV l k) x q := ⟨hver.1, hv.1, hq.symm, by rw [hver.2, hv.2]⟩
  refine ⟨by unfold collV; rw [if_pos hok, hq]; rfl, ?_, (fromC_zero hv.1).1⟩
  have h1 := hver.2
  have h2 := hv.2
  unfold fromV at h1 h2
  rw [if_pos hver.1, Int.toNat_natCast, ← hq] at h1
  rw [if_pos hv.1, Int.toNat_natCast] at h2
  rw [h1, h2]
end Go.Proofs.Ytgkfopodhikckaa

/- The law MerkleForged. Condition: at most 64 leaves, a path of at most 12 nodes. -/
namespace Go.Proofs.Ytgkfopodhikckaa
open Go.RowKit
attribute [local irreducible] wpQuiet wpList
set_option maxRecDepth 100000 in
theorem eq82 (w : World) : (binOp .eql 82 (.agg (twoCs 0 zP zP).toArray) (.agg (twoCs 0 zP zP).toArray)).run Try.prog w = .ok (.bool true) w := by kernel_rfl
set_option maxRecDepth 100000 in
theorem wpL_eq82 {w : World} {ops : Array Oper} {rest : List Oper} {a : Act} {Q : Exit → Act → World → Prop} {dst : Option Tmp} {ty yt : TypeId} {pos : String} {after : Array Edge} {guard : Option (Nat × Bool)} {x y : Operand} (hx : a.eval x = .agg (twoCs 0 zP zP).toArray) (hy : a.eval y = .agg (twoCs 0 zP zP).toArray)
    (hg : Region.wanted { dst := dst, op := .binOp .eql 82 x y yt, type := ty, pos := pos, after := after, guard := guard } (yielded ops a.tmps) = true)
    (h : wpList Try.prog ops Q rest (a.put dst (.bool true)) w) : wpList Try.prog ops Q ({ dst := dst, op := .binOp .eql 82 x y yt, type := ty, pos := pos, after := after, guard := guard } :: rest) a w := by
  refine wpList_ex hg ?_ h
  have hg2 := run_eqGuard_agg (P := Try.prog) w .eql 82 x y (twoCs 0 zP zP).toArray (twoCs 0 zP zP).toArray (by kernel_rfl)
  simp only [execOp, hx, hy, Sem.run_bind, hg2, Result.andThen_ok, eq82, Sem.run_pure]
theorem two_part {lv : Int} {A B : Arr 32} {x y : Nd} {j : Nat} (h : ((twoCs lv A B).drop j).take 32 = (jn x y).cells) : ((twoCs lv A B).drop (j + 0 * 16)).take 16 = x.cells ∧ ((twoCs lv A B).drop (j + 1 * 16)).take 16 = y.cells := by
  have h1 := pair_fst x y
  have h2 := pair_snd x y
  rw [← jn_cells, ← h] at h1 h2
  rw [List.drop_zero, List.take_take] at h1
  rw [List.drop_take, List.take_take, List.drop_drop] at h2
  exact ⟨h1, h2⟩
/-- Words that simp leaves alone. -/
def SameLen (a b : List Nd) : Prop := a.length = b.length
def SameTake (a b : List Nd) (j : Nat) : Prop := a.take j = b.take j
def SameList (a b : List Nd) : Prop := a = b
def FRel (w : World) (x y : Nd) (p q : List Nd) (bs : List (Nat × Obj)) (rows : List Row) (cv kv : Value) (wr : World) : Prop :=
  ∃ (j : Nat) (ch : Bool), j ≤ q.length ∧ kv = .int .i64 j ∧ cv = .bool ch ∧ (ch = false ↔ x = y ∧ SameTake q p j) ∧ Holds w [] bs rows wr
theorem take_step {l m : List Nd} {j : Nat} (h1 : j < l.length) (h2 : j < m.length) : (l.take (j + 1) = m.take (j + 1)) ↔ (l.take j = m.take j ∧ l.getD j Nd0 = m.getD j Nd0) := by
  have e1 : l.getD j Nd0 = l[j] := by simp [h1]
  have e2 : m.getD j Nd0 = m[j] := by simp [h2]
  rw [e1, e2, ← List.take_append_getElem h1, ← List.take_append_getElem h2]
  constructor
  · intro h
    have := List.append_inj h (by simp; omega)
    exact ⟨this.1, by simpa using this.2⟩
  · rintro ⟨h, h'⟩; rw [h, h']
set_option maxRecDepth 100000 in
set_option maxHeartbeats 16000000 in
theorem law_forged (w : World) (v : Value) (l : List Nd) (i : Int) (x : Nd) (u : Value) (pp : List Nd) (keep : Bool) (hl : Arrs w v l) (hu : Arrs w u pp) : Calls Try.prog 18 #[v, .agg (claimCs i x u).toArray, .bool keep] w (RetB w true) := by
  obtain ⟨ao, cap, rfl, _⟩ := hl.shape
  obtain ⟨ap, cp, rfl, _⟩ := hu.shape
  have HL := hid hl
  have HPP := hid hu
  clear hl hu
  have HH := hid (Holds.init w)
  go_enter Try.func18, Try.ntmps18
  go_wp2_with (first
    | ((first
        | ((with_reducible apply wpL_skip); rfl; skip)
        | ((with_reducible apply wpL_nilCheck); rfl; rfl)
        | ((with_reducible apply wpL_fieldAddr); (first | exact kF79_0 | exact kF79_1 | exact kF79_2 | exact kF82_0 | exact kF82_1 | exact kF82_2); rfl; rfl)
        | ((with_reducible apply wpL_load1 (t := 3) kO3 HH.out); rfl; (repeat (first | exact .here | refine .there ?_)); rfl; rfl)
        | ((with_reducible apply wpL_load1 (t := 30) kO30 HH.out); rfl; (repeat (first | exact .here | refine .there ?_)); rfl; rfl)
        | ((with_reducible apply wpL_loadArr (t := 34) kA34 HH.out); rfl; (repeat (first | exact .here | refine .there ?_)); rfl)
        | ((with_reducible apply wpL_loadArr (t := 41) kA41 HH.out); rfl; (repeat (first | exact .here | refine .there ?_)); rfl)
        | ((with_reducible apply wpL_loadC (t := 80) kA80 HH.out); rfl; (repeat (first | exact .here | refine .there ?_)); (first | rfl | exact Arr.len _ | (simp; done)); rfl)
        | ((with_reducible apply wpL_loadC (t := 82) kA82 HH.out); rfl; (repeat (first | exact .here | refine .there ?_)); (first | rfl | exact Arr.len _ | (simp; done)); rfl)
        | ((with_reducible apply wpL_len (t := 30) Try.underlying30); rfl; rfl)
        | ((with_reducible apply wpL_len (t := 46) Try.underlying46); rfl; rfl)
        | ((with_reducible apply wpL_boxC (dst := some 4)); rfl; (exact HH.out); rfl; (intro g4_ w_ hq_; (try simp only [List.set_cons_zero, List.set_cons_succ] at hq_); clear HH; have HH := hid hq_; clear hq_))
        | ((with_reducible apply wpL_allocC (dst := some 8) kZ41 HH.out); rfl; (intro g8_ w_ hq_; (try simp only [List.set_cons_zero, List.set_cons_succ] at hq_); clear HH; have HH := hid hq_; clear hq_))
        | ((with_reducible apply wpL_allocC (dst := some 11) kZ34 HH.out); rfl; (intro g11_ w_ hq_; (try simp only [List.set_cons_zero, List.set_cons_succ] at hq_); clear HH; have HH := hid hq_; clear hq_))
        | ((with_reducible apply wpL_allocC (dst := some 18) kZ82 HH.out); rfl; (intro g18_ w_ hq_; (try simp only [List.set_cons_zero, List.set_cons_succ] at hq_); clear HH; have HH := hid hq_; clear hq_))
        | ((with_reducible apply wpL_storeArr (t := 34) kS34 HH.out); rfl; rfl; (repeat (first | exact .here | refine .there ?_)); (first | rfl | exact Arr.len _ | (simp; done)); rfl; (intro w_ hq_; (try simp only [List.set_cons_zero, List.set_cons_succ] at hq_); clear HH; have HH := hid hq_; clear hq_))
        | ((with_reducible apply wpL_storeArr (t := 41) kS41 HH.out); rfl; rfl; (repeat (first | exact .here | refine .there ?_)); (first | rfl | exact Arr.len _ | (simp; done)); rfl; (intro w_ hq_; (try simp only [List.set_cons_zero, List.set_cons_succ] at hq_); clear HH; have HH := hid hq_; clear hq_))
        | ((with_reducible apply wpL_storeC (t := 82)); rfl; rfl; (exact kS82); (exact HH.out); (repeat (first | exact .here | refine .there ?_)); (first | rfl | exact Arr.len _ | (simp; done)); (first | rfl | (intro u_ hu_; simp only [List.mem_cons, List.not_mem_nil, or_false] at hu_; rcases hu_ with rfl | hu_; rfl) | exact byt_cell1 _ | exact cells_one _ | exact wrd_one _ | exact flat_cell1 _); (first | rfl | exact Arr.len _ | (simp; done)); rfl; (intro w_ hq_; (try simp only [List.set_cons_zero, List.set_cons_succ] at hq_); clear HH; have HH := hid hq_; clear hq_))
        | ((with_reducible apply wpL_move); rfl; rfl)
        | ((with_reducible apply wpL_assign); rfl; rfl)
        | ((with_reducible apply wpL_pick); rfl; rfl; rfl)
        | ((with_reducible apply wpL_not); rfl; rfl)
        | ((with_reducible apply wpL_cmp (b := true)); rfl; rfl; rfl; (first | rfl | assumption | (simp only [cmpB, decide_eq_true_eq, decide_eq_false_iff_not, beq_iff_eq, bne_iff_ne, ne_eq, beq_eq_false_iff_ne, bne_eq_false_iff_eq, gt_iff_lt, ge_iff_le]; omega) | (simp; omega)); rfl)
        | ((with_reducible apply wpL_cmp (b := false)); rfl; rfl; rfl; (first | rfl | assumption | (simp only [cmpB, decide_eq_true_eq, decide_eq_false_iff_not, beq_iff_eq, bne_iff_ne, ne_eq, beq_eq_false_iff_ne, bne_eq_false_iff_eq, gt_iff_lt, ge_iff_le]; omega) | (simp; omega)); rfl)
        | ((with_reducible apply wpL_cmp); rfl; rfl; rfl; rfl; rfl)
        | ((with_reducible apply wpL_arith); rfl; rfl; rfl; (exact IntWalk.i64_in _ (by (try simp only [arithI]); omega)); rfl)); (try simp only [arithI, Act.put, Act.eval, List.setIfInBounds_toArray, List.set_cons_succ, List.set_cons_zero, Array.getD_eq_getD_getElem?, List.getElem?_toArray, List.getElem?_cons_succ, List.getElem?_cons_zero, Option.getD_some])))
  refine wp_region_F [(fun u_ => u_ = (.pointer (some ⟨g4_, 0 + 0, none⟩))), (fun u_ => u_ = (.int .i64 i)), (fun u_ => u_ = (.pointer (some ⟨g4_, 0 + 1, none⟩))), (fun u_ => u_ = x.val), (fun u_ => u_ = (.pointer (some ⟨g4_, 0 + 17, none⟩))), (fun u_ => u_ = (.slice ap pp.length cp)), (isPtr), (fun u_ => u_ = (.int .i64 i)), (fun _ => True), (fun u_ => u_ = (.slice ap pp.length cp))] (AJ w [] [(g4_, objC (claimCs i x (.slice ap pp.length cp)) 79)] (fun _ _ => []) 6 8 8 41 (Arr.zero 16).cells x.cells) (by kernel_rfl) (by kernel_rfl) rfl (HH.out.drew) ?_ ?_
  · refine eachD_cons ?_ (eachD_cons ?_ (eachD_cons ?_ (eachD_cons ?_ (eachD_cons ?_ (eachD_cons ?_ (eachD_cons ?_ (eachD_cons ?_ (eachD_cons ?_ (eachD_cons ?_ (eachD_nil))))))))))
    · intro li_ a_ w1 hc hi hJ hF hS
      have e4 : a_.eval (.tmp 4) = (.pointer (some ⟨g4_, 0, none⟩)) := (hF.2.2 4 (notDst_of (by kernel_rfl))).trans rfl
      refine wantD (by rfl) ?_
      exact opF_val rfl (ex_fieldAddr kF79_0 e4 w1) hJ rfl
    · intro li_ a_ w1 hc hi hJ hF hS
      have l0 : li_ 0 = true := (hS ⟨0, .data⟩ (by simp) rfl).1
      have e20 : a_.eval (.tmp 20) = (.pointer (some ⟨g4_, 0 + 0, none⟩)) := (hS ⟨0, .data⟩ (by simp) rfl).2 _ rfl
      refine wantD (by rfl) ?_
      exact opF_val rfl (ex_load1 kO3 hJ e20 (Own.opt .here) rfl) hJ rfl
    · intro li_ a_ w1 hc hi hJ hF hS
      have e4 : a_.eval (.tmp 4) = (.pointer (some ⟨g4_, 0, none⟩)) := (hF.2.2 4 (notDst_of (by kernel_rfl))).trans rfl
      refine wantD (by rfl) ?_
      exact opF_val rfl (ex_fieldAddr kF79_1 e4 w1) hJ rfl
    · intro li_ a_ w1 hc hi hJ hF hS
      have l2 : li_ 2 = true := (hS ⟨2, .data⟩ (by simp) rfl).1
      have e22 : a_.eval (.tmp 22) = (.pointer (some ⟨g4_, 0 + 1, none⟩)) := (hS ⟨2, .data⟩ (by simp) rfl).2 _ rfl
      refine wantD (by rfl) ?_
      exact opF_val rfl (ex_loadPart kA41 hJ e22 (Own.opt .here) (claim_leaf _ _ _) (Arr.len _)) hJ rfl
    · intro li_ a_ w1 hc hi hJ hF hS
      have e4 : a_.eval (.tmp 4) = (.pointer (some ⟨g4_, 0, none⟩)) := (hF.2.2 4 (notDst_of (by kernel_rfl))).trans rfl
      refine wantD (by rfl) ?_
      exact opF_val rfl (ex_fieldAddr kF79_2 e4 w1) hJ rfl
    · intro li_ a_ w1 hc hi hJ hF hS
      have l4 : li_ 4 = true := (hS ⟨4, .data⟩ (by simp) rfl).1
      have e24 : a_.eval (.tmp 24) = (.pointer (some ⟨g4_, 0 + 17, none⟩)) := (hS ⟨4, .data⟩ (by simp) rfl).2 _ rfl
      refine wantD (by rfl) ?_
      exact opF_val rfl (ex_load1 kO30 hJ e24 (Own.opt .here) (claim_path _ _ _)) hJ rfl
    · intro li_ a_ w1 hc hi hJ hF hS
      refine wantD (by rfl) ?_
      exact aj_alloc kZ41 hJ hi (hc.off (j := 8) (by kernel_rfl) hi) (by decide) (fun _ => rfl)
    · intro li_ a_ w1 hc hi hJ hF hS
      have l1 : li_ 1 = true := (hS ⟨1, .data⟩ (by simp) rfl).1
      have l0 : li_ 0 = true := (hS ⟨0, .phase⟩ (by simp) rfl).1
      have l6 : li_ 6 = true := (hS ⟨6, .phase⟩ (by simp) rfl).1
      have e21 : a_.eval (.tmp 21) = (.int .i64 i) := (hS ⟨1, .data⟩ (by simp) rfl).2 _ rfl
      refine wantD (by rfl) ?_
      exact opF_val rfl (ex_assign rfl w1) hJ e21
    · intro li_ a_ w1 hc hi hJ hF hS
      have l6 : li_ 6 = true := (hS ⟨6, .data⟩ (by simp) rfl).1
      have l3 : li_ 3 = true := (hS ⟨3, .data⟩ (by simp) rfl).1
      have l7 : li_ 7 = true := (hS ⟨7, .chain⟩ (by simp) rfl).1
      have l0 : li_ 0 = true := (hS ⟨0, .phase⟩ (by simp) rfl).1
      have l1 : li_ 1 = true := (hS ⟨1, .phase⟩ (by simp) rfl).1
      have l2 : li_ 2 = true := (hS ⟨2, .phase⟩ (by simp) rfl).1
      have e8 : (isPtr) (a_.eval (.tmp 8)) := (hS ⟨6, .data⟩ (by simp) rfl).2 _ rfl
      have e23 : a_.eval (.tmp 23) = x.val := (hS ⟨3, .data⟩ (by simp) rfl).2 _ rfl
      refine wantD (by rfl) ?_
      exact aj_store kS41 (Arr.len _) (Arr.len _) (cells_one _) hJ l6 hi (by decide) e8 e23 rfl
    · intro li_ a_ w1 hc hi hJ hF hS
      have l5 : li_ 5 = true := (hS ⟨5, .data⟩ (by simp) rfl).1
      have l8 : li_ 8 = true := (hS ⟨8, .chain⟩ (by simp) rfl).1
      have l0 : li_ 0 = true := (hS ⟨0, .phase⟩ (by simp) rfl).1
      have l1 : li_ 1 = true := (hS ⟨1, .phase⟩ (by simp) rfl).1
      have l2 : li_ 2 = true := (hS ⟨2, .phase⟩ (by simp) rfl).1
      have l3 : li_ 3 = true := (hS ⟨3, .phase⟩ (by simp) rfl).1
      have l4 : li_ 4 = true := (hS ⟨4, .phase⟩ (by simp) rfl).1
      have l6 : li_ 6 = true := (hS ⟨6, .phase⟩ (by simp) rfl).1
      have l7 : li_ 7 = true := (hS ⟨7, .phase⟩ (by simp) rfl).1
      have e25 : a_.eval (.tmp 25) = (.slice ap pp.length cp) := (hS ⟨5, .data⟩ (by simp) rfl).2 _ rfl
      refine wantD (by rfl) ?_
      exact opF_val rfl (ex_assign rfl w1) hJ e25
  intro v0_ h0_ v1_ h1_ v2_ h2_ v3_ h3_ v4_ h4_ v5_ h5_ v6_ h6_ v7_ h7_ v8_ h8_ v9_ h9_
  intro wq hq_
  have q_ : v0_ = (.pointer (some ⟨g4_, 0 + 0, none⟩)) := h0_; clear h0_; subst q_
  have q_ : v1_ = (.int .i64 i) := h1_; clear h1_; subst q_
  have q_ : v2_ = (.pointer (some ⟨g4_, 0 + 1, none⟩)) := h2_; clear h2_; subst q_
  have q_ : v3_ = x.val := h3_; clear h3_; subst q_
  have q_ : v4_ = (.pointer (some ⟨g4_, 0 + 17, none⟩)) := h4_; clear h4_; subst q_
  have q_ : v5_ = (.slice ap pp.length cp) := h5_; clear h5_; subst q_
  obtain ⟨g8_, rfl⟩ := h6_
  have q_ : v7_ = (.int .i64 i) := h7_; clear h7_; subst q_
  clear h8_
  have q_ : v9_ = (.slice ap pp.length cp) := h9_; clear h9_; subst q_
  have HQ := hid hq_; clear hq_
  simp only [putsD, Act.put, List.setIfInBounds_toArray, List.set_cons_succ, List.set_cons_zero]
  have hq2_ : Holds w [] [(g8_, objC x.cells 41), (g4_, objC (claimCs i x (.slice ap pp.length cp)) 79)] [] wq := HQ.out
  clear HH HQ
  have HH := hid hq2_
  clear hq2_
  by_cases hn : 64 < l.length
  · skip
    go_wp2_with (first
      | ((first
          | ((with_reducible apply wpL_skip); rfl; skip)
          | (go_at_call 23; (first | ((have hcall_ := hid (knownM_any _)); (with_reducible refine hcall_.out.mono ?_); clear hcall_) | (with_reducible refine (knownM_any _).mono ?_)); rintro e_ w2_ ⟨rfl, hb_⟩; (have hq_ := HH.out.grow hb_); clear HH; have HH := hid hq_; clear hq_ hb_)
          | ((with_reducible apply wpL_nilCheck); rfl; rfl)
          | ((with_reducible apply wpL_fieldAddr); (first | exact kF79_0 | exact kF79_1 | exact kF79_2 | exact kF82_0 | exact kF82_1 | exact kF82_2); rfl; rfl)
          | ((with_reducible apply wpL_load1 (t := 3) kO3 HH.out); rfl; (repeat (first | exact .here | refine .there ?_)); rfl; rfl)
          | ((with_reducible apply wpL_load1 (t := 30) kO30 HH.out); rfl; (repeat (first | exact .here | refine .there ?_)); rfl; rfl)
          | ((with_reducible apply wpL_loadArr (t := 34) kA34 HH.out); rfl; (repeat (first | exact .here | refine .there ?_)); rfl)
          | ((with_reducible apply wpL_loadArr (t := 41) kA41 HH.out); rfl; (repeat (first | exact .here | refine .there ?_)); rfl)
          | ((with_reducible apply wpL_loadC (t := 80) kA80 HH.out); rfl; (repeat (first | exact .here | refine .there ?_)); (first | rfl | exact Arr.len _ | (simp; done)); rfl)
          | ((with_reducible apply wpL_loadC (t := 82) kA82 HH.out); rfl; (repeat (first | exact .here | refine .there ?_)); (first | rfl | exact Arr.len _ | (simp; done)); rfl)
          | ((with_reducible apply wpL_len (t := 30) Try.underlying30); rfl; rfl)
          | ((with_reducible apply wpL_len (t := 46) Try.underlying46); rfl; rfl)
          | ((with_reducible apply wpL_boxC (dst := some 4)); rfl; (exact HH.out); rfl; (intro g4_ w_ hq_; (try simp only [List.set_cons_zero, List.set_cons_succ] at hq_); clear HH; have HH := hid hq_; clear hq_))
          | ((with_reducible apply wpL_allocC (dst := some 8) kZ41 HH.out); rfl; (intro g8_ w_ hq_; (try simp only [List.set_cons_zero, List.set_cons_succ] at hq_); clear HH; have HH := hid hq_; clear hq_))
          | ((with_reducible apply wpL_allocC (dst := some 11) kZ34 HH.out); rfl; (intro g11_ w_ hq_; (try simp only [List.set_cons_zero, List.set_cons_succ] at hq_); clear HH; have HH := hid hq_; clear hq_))
          | ((with_reducible apply wpL_allocC (dst := some 18) kZ82 HH.out); rfl; (intro g18_ w_ hq_; (try simp only [List.set_cons_zero, List.set_cons_succ] at hq_); clear HH; have HH := hid hq_; clear hq_))
          | ((with_reducible apply wpL_storeArr (t := 34) kS34 HH.out); rfl; rfl; (repeat (first | exact .here | refine .there ?_)); (first | rfl | exact Arr.len _ | (simp; done)); rfl; (intro w_ hq_; (try simp only [List.set_cons_zero, List.set_cons_succ] at hq_); clear HH; have HH := hid hq_; clear hq_))
          | ((with_reducible apply wpL_storeArr (t := 41) kS41 HH.out); rfl; rfl; (repeat (first | exact .here | refine .there ?_)); (first | rfl | exact Arr.len _ | (simp; done)); rfl; (intro w_ hq_; (try simp only [List.set_cons_zero, List.set_cons_succ] at hq_); clear HH; have HH := hid hq_; clear hq_))
          | ((with_reducible apply wpL_storeC (t := 82)); rfl; rfl; (exact kS82); (exact HH.out); (repeat (first | exact .here | refine .there ?_)); (first | rfl | exact Arr.len _ | (simp; done)); (first | rfl | (intro u_ hu_; simp only [List.mem_cons, List.not_mem_nil, or_false] at hu_; rcases hu_ with rfl | hu_; rfl) | exact byt_cell1 _ | exact cells_one _ | exact wrd_one _ | exact flat_cell1 _); (first | rfl | exact Arr.len _ | (simp; done)); rfl; (intro w_ hq_; (try simp only [List.set_cons_zero, List.set_cons_succ] at hq_); clear HH; have HH := hid hq_; clear hq_))
          | ((with_reducible apply wpL_move); rfl; rfl)
          | ((with_reducible apply wpL_assign); rfl; rfl)
          | ((with_reducible apply wpL_pick); rfl; rfl; rfl)
          | ((with_reducible apply wpL_not); rfl; rfl)
          | ((with_reducible apply wpL_cmp (b := true)); rfl; rfl; rfl; (first | rfl | assumption | (simp only [cmpB, decide_eq_true_eq, decide_eq_false_iff_not, beq_iff_eq, bne_iff_ne, ne_eq, beq_eq_false_iff_ne, bne_eq_false_iff_eq, gt_iff_lt, ge_iff_le]; omega) | (simp; omega)); rfl)
          | ((with_reducible apply wpL_cmp (b := false)); rfl; rfl; rfl; (first | rfl | assumption | (simp only [cmpB, decide_eq_true_eq, decide_eq_false_iff_not, beq_iff_eq, bne_iff_ne, ne_eq, beq_eq_false_iff_ne, bne_eq_false_iff_eq, gt_iff_lt, ge_iff_le]; omega) | (simp; omega)); rfl)
          | ((with_reducible apply wpL_cmp); rfl; rfl; rfl; rfl; rfl)
          | ((with_reducible apply wpL_arith); rfl; rfl; rfl; (exact IntWalk.i64_in _ (by (try simp only [arithI]); omega)); rfl)); (try simp only [arithI, Act.put, Act.eval, List.setIfInBounds_toArray, List.set_cons_succ, List.set_cons_zero, Array.getD_eq_getD_getElem?, List.getElem?_toArray, List.getElem?_cons_succ, List.getElem?_cons_zero, Option.getD_some])))
    go_ret
    exact RetB.mk rfl HH.out.dropBlk.dropBlk.below
  · by_cases hpn : 12 < pp.length
    · skip
      go_wp2_with (first
        | ((first
            | ((with_reducible apply wpL_skip); rfl; skip)
            | (go_at_call 23; (first | ((have hcall_ := hid (knownM_any _)); (with_reducible refine hcall_.out.mono ?_); clear hcall_) | (with_reducible refine (knownM_any _).mono ?_)); rintro e_ w2_ ⟨rfl, hb_⟩; (have hq_ := HH.out.grow hb_); clear HH; have HH := hid hq_; clear hq_ hb_)
            | ((with_reducible apply wpL_nilCheck); rfl; rfl)
            | ((with_reducible apply wpL_fieldAddr); (first | exact kF79_0 | exact kF79_1 | exact kF79_2 | exact kF82_0 | exact kF82_1 | exact kF82_2); rfl; rfl)
            | ((with_reducible apply wpL_load1 (t := 3) kO3 HH.out); rfl; (repeat (first | exact .here | refine .there ?_)); rfl; rfl)
            | ((with_reducible apply wpL_load1 (t := 30) kO30 HH.out); rfl; (repeat (first | exact .here | refine .there ?_)); rfl; rfl)
            | ((with_reducible apply wpL_loadArr (t := 34) kA34 HH.out); rfl; (repeat (first | exact .here | refine .there ?_)); rfl)
            | ((with_reducible apply wpL_loadArr (t := 41) kA41 HH.out); rfl; (repeat (first | exact .here | refine .there ?_)); rfl)
            | ((with_reducible apply wpL_loadC (t := 80) kA80 HH.out); rfl; (repeat (first | exact .here | refine .there ?_)); (first | rfl | exact Arr.len _ | (simp; done)); rfl)
            | ((with_reducible apply wpL_loadC (t := 82) kA82 HH.out); rfl; (repeat (first | exact .here | refine .there ?_)); (first | rfl | exact Arr.len _ | (simp; done)); rfl)
            | ((with_reducible apply wpL_len (t := 30) Try.underlying30); rfl; rfl)
            | ((with_reducible apply wpL_len (t := 46) Try.underlying46); rfl; rfl)
            | ((with_reducible apply wpL_boxC (dst := some 4)); rfl; (exact HH.out); rfl; (intro g4_ w_ hq_; (try simp only [List.set_cons_zero, List.set_cons_succ] at hq_); clear HH; have HH := hid hq_; clear hq_))
            | ((with_reducible apply wpL_allocC (dst := some 8) kZ41 HH.out); rfl; (intro g8_ w_ hq_; (try simp only [List.set_cons_zero, List.set_cons_succ] at hq_); clear HH; have HH := hid hq_; clear hq_))
            | ((with_reducible apply wpL_allocC (dst := some 11) kZ34 HH.out); rfl; (intro g11_ w_ hq_; (try simp only [List.set_cons_zero, List.set_cons_succ] at hq_); clear HH; have HH := hid hq_; clear hq_))
            | ((with_reducible apply wpL_allocC (dst := some 18) kZ82 HH.out); rfl; (intro g18_ w_ hq_; (try simp only [List.set_cons_zero, List.set_cons_succ] at hq_); clear HH; have HH := hid hq_; clear hq_))
            | ((with_reducible apply wpL_storeArr (t := 34) kS34 HH.out); rfl; rfl; (repeat (first | exact .here | refine .there ?_)); (first | rfl | exact Arr.len _ | (simp; done)); rfl; (intro w_ hq_; (try simp only [List.set_cons_zero, List.set_cons_succ] at hq_); clear HH; have HH := hid hq_; clear hq_))
            | ((with_reducible apply wpL_storeArr (t := 41) kS41 HH.out); rfl; rfl; (repeat (first | exact .here | refine .there ?_)); (first | rfl | exact Arr.len _ | (simp; done)); rfl; (intro w_ hq_; (try simp only [List.set_cons_zero, List.set_cons_succ] at hq_); clear HH; have HH := hid hq_; clear hq_))
            | ((with_reducible apply wpL_storeC (t := 82)); rfl; rfl; (exact kS82); (exact HH.out); (repeat (first | exact .here | refine .there ?_)); (first | rfl | exact Arr.len _ | (simp; done)); (first | rfl | (intro u_ hu_; simp only [List.mem_cons, List.not_mem_nil, or_false] at hu_; rcases hu_ with rfl | hu_; rfl) | exact byt_cell1 _ | exact cells_one _ | exact wrd_one _ | exact flat_cell1 _); (first | rfl | exact Arr.len _ | (simp; done)); rfl; (intro w_ hq_; (try simp only [List.set_cons_zero, List.set_cons_succ] at hq_); clear HH; have HH := hid hq_; clear hq_))
            | ((with_reducible apply wpL_move); rfl; rfl)
            | ((with_reducible apply wpL_assign); rfl; rfl)
            | ((with_reducible apply wpL_pick); rfl; rfl; rfl)
            | ((with_reducible apply wpL_not); rfl; rfl)
            | ((with_reducible apply wpL_cmp (b := true)); rfl; rfl; rfl; (first | rfl | assumption | (simp only [cmpB, decide_eq_true_eq, decide_eq_false_iff_not, beq_iff_eq, bne_iff_ne, ne_eq, beq_eq_false_iff_ne, bne_eq_false_iff_eq, gt_iff_lt, ge_iff_le]; omega) | (simp; omega)); rfl)
            | ((with_reducible apply wpL_cmp (b := false)); rfl; rfl; rfl; (first | rfl | assumption | (simp only [cmpB, decide_eq_true_eq, decide_eq_false_iff_not, beq_iff_eq, bne_iff_ne, ne_eq, beq_eq_false_iff_ne, bne_eq_false_iff_eq, gt_iff_lt, ge_iff_le]; omega) | (simp; omega)); rfl)
            | ((with_reducible apply wpL_cmp); rfl; rfl; rfl; rfl; rfl)
            | ((with_reducible apply wpL_arith); rfl; rfl; rfl; (exact IntWalk.i64_in _ (by (try simp only [arithI]); omega)); rfl)); (try simp only [arithI, Act.put, Act.eval, List.setIfInBounds_toArray, List.set_cons_succ, List.set_cons_zero, Array.getD_eq_getD_getElem?, List.getElem?_toArray, List.getElem?_cons_succ, List.getElem?_cons_zero, Option.getD_some])))
      go_ret
      exact RetB.mk rfl HH.out.dropBlk.dropBlk.below
    · obtain ⟨r, hr⟩ : ∃ r, rootV l = r := ⟨_, rfl⟩
      obtain ⟨c, hc⟩ : ∃ c, checkC l.length = c := ⟨_, rfl⟩
      obtain ⟨p, hp⟩ : ∃ p, pathV l i = p := ⟨_, rfl⟩
      obtain ⟨pc, hpc⟩ : ∃ pc, pathC l i = pc := ⟨_, rfl⟩
      have HR := hid hr
      have HC := hid hc
      have HP := hid hp
      have HPC := hid hpc
      by_cases hc0 : c = 0
      · subst hc0
        by_cases hpc0 : pc = 0
        · subst hpc0
          have hik : 0 ≤ i ∧ i < (l.length : Int) := by
            unfold pathC at hpc
            rw [if_pos hc] at hpc
            split at hpc
            · cases hpc
            · omega
          obtain ⟨k, rfl⟩ : ∃ k : Nat, i = k := ⟨i.toNat, by omega⟩
          have hkl : k < l.length := by omega
          have HKL := hid hkl
          obtain ⟨y, hy⟩ : ∃ y, l.getD k Nd0 = y := ⟨_, rfl⟩
          have HY := hid (show ∀ pf : k < l.length, l[k]'pf = y from fun pf => by rw [← hy]; simp [pf])
          have HFL := hid (fun (q : List Nd) (h1 : q.length = p.length) (h2 : verB r x k q = true) => by
            have h := forged_law (l := l) (k := k) (x := x) (q := q) hc hkl (by rw [h1, hp]) (by rw [hr]; exact h2)
            rw [hy, hp] at h
            exact h)
          have hpl : p.length ≤ 1000000000 := by
            rw [← hp]
            unfold pathV
            rw [if_pos hpc, pathL_len]
            have : Nat.log2 l.length ≤ l.length := Nat.log2_le_self _
            omega
          have HPL := hid hpl
          cases keep with
          | false =>
            have HQL10 := hid (show pp.length ≤ 1000000000 by omega)
            by_cases hlq : pp.length = p.length
            · obtain ⟨vb, hvb⟩ : ∃ vb, verB r x k pp = vb := ⟨_, rfl⟩
              have HVB := hid hvb
              have HLQ := hid (show SameLen pp p from hlq)
              have hlb : ((pp.length : Int) != (p.length : Int)) = false := by simp [hlq]
              cases vb with
              | false =>
                clear hr hc hp hpc hlq hvb hik hkl hy
                go_wp2_with (first
                  | ((first
                      | ((with_reducible apply wpL_skip); rfl; skip)
                      | (go_at_call 23; (first | ((have hcall_ := hid (knownM_any _)); (with_reducible refine hcall_.out.mono ?_); clear hcall_) | (with_reducible refine (knownM_any _).mono ?_)); rintro e_ w2_ ⟨rfl, hb_⟩; (have hq_ := HH.out.grow hb_); clear HH; have HH := hid hq_; clear hq_ hb_)
                      | (go_at_call 49; (have hcall_ := hid (ownN_any _ (.slice ao l.length cap) l (HH.out.sl HL.out) (by omega))); (with_reducible refine hcall_.out.mono ?_); clear hcall_; rintro e_ w2_ ⟨ao1, cap1, rfl, hr_, hb_⟩; (have hq_ := HH.out.addRow hb_ hr_); clear HH; have HH := hid hq_; clear hq_ hb_ hr_)
                      | (go_at_call 38; (have hcall_ := hid (root_any _ _ l HH.out.sl0 (by omega))); (with_reducible refine hcall_.out.mono ?_); clear hcall_; rw [HR.out, HC.out]; rintro e_ w2_ ⟨rfl, hb_⟩; (have hq_ := HH.out.grow hb_); clear HH; have HH := hid hq_; clear hq_ hb_)
                      | (go_at_call 51; (have hcall_ := hid (progPathO_any _ _ l (k:Int) HH.out.sl0 (by omega))); (with_reducible refine hcall_.out.mono ?_); clear hcall_; rw [HP.out, HPC.out]; rintro e_ w2_ ⟨ao2, cap2, rfl, hr_, hb_⟩; (have hq_ := HH.out.addRow hb_ hr_); clear HH; have HH := hid hq_; clear hq_ hb_ hr_)
                      | (go_at_call 49; (have hcall_ := hid (ownN_any _ (.slice ap pp.length cp) pp (HH.out.sl HPP.out) (by omega))); (with_reducible refine hcall_.out.mono ?_); clear hcall_; rintro e_ w2_ ⟨ao3, cap3, rfl, hr_, hb_⟩; (have hq_ := HH.out.addRow hb_ hr_); clear HH; have HH := hid hq_; clear hq_ hb_ hr_)
                      | (go_at_call 53; (have hcall_ := hid (verify_any _ _ r x (k:Int) pp (HH.out.sl0) HQL10.out)); (with_reducible refine hcall_.out.mono ?_); clear hcall_; rw [HVB.out]; rintro e_ w2_ ⟨rfl, hb_⟩; (have hq_ := HH.out.grow hb_); clear HH; have HH := hid hq_; clear hq_ hb_)
                      | ((with_reducible apply wpL_nilCheck); rfl; rfl)
                      | ((with_reducible apply wpL_fieldAddr); (first | exact kF79_0 | exact kF79_1 | exact kF79_2 | exact kF82_0 | exact kF82_1 | exact kF82_2); rfl; rfl)
                      | ((with_reducible apply wpL_load1 (t := 3) kO3 HH.out); rfl; (repeat (first | exact .here | refine .there ?_)); rfl; rfl)
                      | ((with_reducible apply wpL_load1 (t := 30) kO30 HH.out); rfl; (repeat (first | exact .here | refine .there ?_)); rfl; rfl)
                      | ((with_reducible apply wpL_loadArr (t := 34) kA34 HH.out); rfl; (repeat (first | exact .here | refine .there ?_)); rfl)
                      | ((with_reducible apply wpL_loadArr (t := 41) kA41 HH.out); rfl; (repeat (first | exact .here | refine .there ?_)); rfl)
                      | ((with_reducible apply wpL_loadC (t := 80) kA80 HH.out); rfl; (repeat (first | exact .here | refine .there ?_)); (first | rfl | exact Arr.len _ | (simp; done)); rfl)
                      | ((with_reducible apply wpL_loadC (t := 82) kA82 HH.out); rfl; (repeat (first | exact .here | refine .there ?_)); (first | rfl | exact Arr.len _ | (simp; done)); rfl)
                      | ((with_reducible apply wpL_len (t := 30) Try.underlying30); rfl; rfl)
                      | ((with_reducible apply wpL_len (t := 46) Try.underlying46); rfl; rfl)
                      | ((with_reducible apply wpL_boxC (dst := some 4)); rfl; (exact HH.out); rfl; (intro g4_ w_ hq_; (try simp only [List.set_cons_zero, List.set_cons_succ] at hq_); clear HH; have HH := hid hq_; clear hq_))
                      | ((with_reducible apply wpL_allocC (dst := some 8) kZ41 HH.out); rfl; (intro g8_ w_ hq_; (try simp only [List.set_cons_zero, List.set_cons_succ] at hq_); clear HH; have HH := hid hq_; clear hq_))
                      | ((with_reducible apply wpL_allocC (dst := some 11) kZ34 HH.out); rfl; (intro g11_ w_ hq_; (try simp only [List.set_cons_zero, List.set_cons_succ] at hq_); clear HH; have HH := hid hq_; clear hq_))
                      | ((with_reducible apply wpL_allocC (dst := some 18) kZ82 HH.out); rfl; (intro g18_ w_ hq_; (try simp only [List.set_cons_zero, List.set_cons_succ] at hq_); clear HH; have HH := hid hq_; clear hq_))
                      | ((with_reducible apply wpL_storeArr (t := 34) kS34 HH.out); rfl; rfl; (repeat (first | exact .here | refine .there ?_)); (first | rfl | exact Arr.len _ | (simp; done)); rfl; (intro w_ hq_; (try simp only [List.set_cons_zero, List.set_cons_succ] at hq_); clear HH; have HH := hid hq_; clear hq_))
                      | ((with_reducible apply wpL_storeArr (t := 41) kS41 HH.out); rfl; rfl; (repeat (first | exact .here | refine .there ?_)); (first | rfl | exact Arr.len _ | (simp; done)); rfl; (intro w_ hq_; (try simp only [List.set_cons_zero, List.set_cons_succ] at hq_); clear HH; have HH := hid hq_; clear hq_))
                      | ((with_reducible apply wpL_storeC (t := 82)); rfl; rfl; (exact kS82); (exact HH.out); (repeat (first | exact .here | refine .there ?_)); (first | rfl | exact Arr.len _ | (simp; done)); (first | rfl | (intro u_ hu_; simp only [List.mem_cons, List.not_mem_nil, or_false] at hu_; rcases hu_ with rfl | hu_; rfl) | exact byt_cell1 _ | exact cells_one _ | exact wrd_one _ | exact flat_cell1 _); (first | rfl | exact Arr.len _ | (simp; done)); rfl; (intro w_ hq_; (try simp only [List.set_cons_zero, List.set_cons_succ] at hq_); clear HH; have HH := hid hq_; clear hq_))
                      | ((with_reducible apply wpL_move); rfl; rfl)
                      | ((with_reducible apply wpL_assign); rfl; rfl)
                      | ((with_reducible apply wpL_pick); rfl; rfl; rfl)
                      | ((with_reducible apply wpL_not); rfl; rfl)
                      | ((with_reducible apply wpL_cmp (b := true)); rfl; rfl; rfl; (first | rfl | assumption | (simp only [cmpB, decide_eq_true_eq, decide_eq_false_iff_not, beq_iff_eq, bne_iff_ne, ne_eq, beq_eq_false_iff_ne, bne_eq_false_iff_eq, gt_iff_lt, ge_iff_le]; omega) | (simp; omega)); rfl)
                      | ((with_reducible apply wpL_cmp (b := false)); rfl; rfl; rfl; (first | rfl | assumption | (simp only [cmpB, decide_eq_true_eq, decide_eq_false_iff_not, beq_iff_eq, bne_iff_ne, ne_eq, beq_eq_false_iff_ne, bne_eq_false_iff_eq, gt_iff_lt, ge_iff_le]; omega) | (simp; omega)); rfl)
                      | ((with_reducible apply wpL_cmp); rfl; rfl; rfl; rfl; rfl)
                      | ((with_reducible apply wpL_arith); rfl; rfl; rfl; (exact IntWalk.i64_in _ (by (try simp only [arithI]); omega)); rfl)); (try simp only [arithI, Act.put, Act.eval, List.setIfInBounds_toArray, List.set_cons_succ, List.set_cons_zero, Array.getD_eq_getD_getElem?, List.getElem?_toArray, List.getElem?_cons_succ, List.getElem?_cons_zero, Option.getD_some])))
                go_ret
                exact RetB.mk rfl HH.out.below
              | true =>
                have hfl := HFL.out pp hlq hvb
                have HCV := hid hfl.1
                have HFG := hid (show (x = y ∧ SameList pp p → topD (pairA k y p) (pairA k x pp) pp.length = (0, zP, zP)) ∧ (¬ (x = y ∧ SameList pp p) → ∃ (lv : Int) (A0 A1 B0 B1 : Nd), topD (pairA k y p) (pairA k x pp) pp.length = (lv, jn A0 A1, jn B0 B1) ∧ 0 < lv ∧ jn A0 A1 ≠ jn B0 B1 ∧ joinN lv A0 A1 = joinN lv B0 B1) from forged hlq.symm rfl hfl.2.1)
                obtain ⟨b1, hb1⟩ : ∃ b1, (!(x == y)) = b1 := ⟨_, rfl⟩
                have HB1 := hid hb1
                clear hr hc hp hpc hlq hvb hik hfl hb1 hkl hy
                go_wp2_with (first
                  | ((first
                      | ((with_reducible apply wpL_skip); rfl; skip)
                      | (go_at_call 23; (first | ((have hcall_ := hid (knownM_any _)); (with_reducible refine hcall_.out.mono ?_); clear hcall_) | (with_reducible refine (knownM_any _).mono ?_)); rintro e_ w2_ ⟨rfl, hb_⟩; (have hq_ := HH.out.grow hb_); clear HH; have HH := hid hq_; clear hq_ hb_)
                      | (go_at_call 49; (have hcall_ := hid (ownN_any _ (.slice ao l.length cap) l (HH.out.sl HL.out) (by omega))); (with_reducible refine hcall_.out.mono ?_); clear hcall_; rintro e_ w2_ ⟨ao1, cap1, rfl, hr_, hb_⟩; (have hq_ := HH.out.addRow hb_ hr_); clear HH; have HH := hid hq_; clear hq_ hb_ hr_)
                      | (go_at_call 38; (have hcall_ := hid (root_any _ _ l HH.out.sl0 (by omega))); (with_reducible refine hcall_.out.mono ?_); clear hcall_; rw [HR.out, HC.out]; rintro e_ w2_ ⟨rfl, hb_⟩; (have hq_ := HH.out.grow hb_); clear HH; have HH := hid hq_; clear hq_ hb_)
                      | (go_at_call 51; (have hcall_ := hid (progPathO_any _ _ l (k:Int) HH.out.sl0 (by omega))); (with_reducible refine hcall_.out.mono ?_); clear hcall_; rw [HP.out, HPC.out]; rintro e_ w2_ ⟨ao2, cap2, rfl, hr_, hb_⟩; (have hq_ := HH.out.addRow hb_ hr_); clear HH; have HH := hid hq_; clear hq_ hb_ hr_)
                      | (go_at_call 49; (have hcall_ := hid (ownN_any _ (.slice ap pp.length cp) pp (HH.out.sl HPP.out) (by omega))); (with_reducible refine hcall_.out.mono ?_); clear hcall_; rintro e_ w2_ ⟨ao3, cap3, rfl, hr_, hb_⟩; (have hq_ := HH.out.addRow hb_ hr_); clear HH; have HH := hid hq_; clear hq_ hb_ hr_)
                      | (go_at_call 53; (have hcall_ := hid (verify_any _ _ r x (k:Int) pp (HH.out.sl0) HQL10.out)); (with_reducible refine hcall_.out.mono ?_); clear hcall_; rw [HVB.out]; rintro e_ w2_ ⟨rfl, hb_⟩; (have hq_ := HH.out.grow hb_); clear HH; have HH := hid hq_; clear hq_ hb_)
                      | ((with_reducible apply wpL_nilCheck); rfl; rfl)
                      | ((with_reducible apply wpL_fieldAddr); (first | exact kF79_0 | exact kF79_1 | exact kF79_2 | exact kF82_0 | exact kF82_1 | exact kF82_2); rfl; rfl)
                      | ((with_reducible apply wpL_load1 (t := 3) kO3 HH.out); rfl; (repeat (first | exact .here | refine .there ?_)); rfl; rfl)
                      | ((with_reducible apply wpL_load1 (t := 30) kO30 HH.out); rfl; (repeat (first | exact .here | refine .there ?_)); rfl; rfl)
                      | ((with_reducible apply wpL_loadArr (t := 34) kA34 HH.out); rfl; (repeat (first | exact .here | refine .there ?_)); rfl)
                      | ((with_reducible apply wpL_loadArr (t := 41) kA41 HH.out); rfl; (repeat (first | exact .here | refine .there ?_)); rfl)
                      | ((with_reducible apply wpL_loadC (t := 80) kA80 HH.out); rfl; (repeat (first | exact .here | refine .there ?_)); (first | rfl | exact Arr.len _ | (simp; done)); rfl)
                      | ((with_reducible apply wpL_loadC (t := 82) kA82 HH.out); rfl; (repeat (first | exact .here | refine .there ?_)); (first | rfl | exact Arr.len _ | (simp; done)); rfl)
                      | ((with_reducible apply wpL_len (t := 30) Try.underlying30); rfl; rfl)
                      | ((with_reducible apply wpL_len (t := 46) Try.underlying46); rfl; rfl)
                      | ((with_reducible apply wpL_boxC (dst := some 4)); rfl; (exact HH.out); rfl; (intro g4_ w_ hq_; (try simp only [List.set_cons_zero, List.set_cons_succ] at hq_); clear HH; have HH := hid hq_; clear hq_))
                      | ((with_reducible apply wpL_allocC (dst := some 8) kZ41 HH.out); rfl; (intro g8_ w_ hq_; (try simp only [List.set_cons_zero, List.set_cons_succ] at hq_); clear HH; have HH := hid hq_; clear hq_))
                      | ((with_reducible apply wpL_allocC (dst := some 11) kZ34 HH.out); rfl; (intro g11_ w_ hq_; (try simp only [List.set_cons_zero, List.set_cons_succ] at hq_); clear HH; have HH := hid hq_; clear hq_))
                      | ((with_reducible apply wpL_allocC (dst := some 18) kZ82 HH.out); rfl; (intro g18_ w_ hq_; (try simp only [List.set_cons_zero, List.set_cons_succ] at hq_); clear HH; have HH := hid hq_; clear hq_))
                      | ((with_reducible apply wpL_storeArr (t := 34) kS34 HH.out); rfl; rfl; (repeat (first | exact .here | refine .there ?_)); (first | rfl | exact Arr.len _ | (simp; done)); rfl; (intro w_ hq_; (try simp only [List.set_cons_zero, List.set_cons_succ] at hq_); clear HH; have HH := hid hq_; clear hq_))
                      | ((with_reducible apply wpL_storeArr (t := 41) kS41 HH.out); rfl; rfl; (repeat (first | exact .here | refine .there ?_)); (first | rfl | exact Arr.len _ | (simp; done)); rfl; (intro w_ hq_; (try simp only [List.set_cons_zero, List.set_cons_succ] at hq_); clear HH; have HH := hid hq_; clear hq_))
                      | ((with_reducible apply wpL_storeC (t := 82)); rfl; rfl; (exact kS82); (exact HH.out); (repeat (first | exact .here | refine .there ?_)); (first | rfl | exact Arr.len _ | (simp; done)); (first | rfl | (intro u_ hu_; simp only [List.mem_cons, List.not_mem_nil, or_false] at hu_; rcases hu_ with rfl | hu_; rfl) | exact byt_cell1 _ | exact cells_one _ | exact wrd_one _ | exact flat_cell1 _); (first | rfl | exact Arr.len _ | (simp; done)); rfl; (intro w_ hq_; (try simp only [List.set_cons_zero, List.set_cons_succ] at hq_); clear HH; have HH := hid hq_; clear hq_))
                      | ((with_reducible apply wpL_move); rfl; rfl)
                      | ((with_reducible apply wpL_assign); rfl; rfl)
                      | ((with_reducible apply wpL_pick); rfl; rfl; rfl)
                      | ((with_reducible apply wpL_not); rfl; rfl)
                      | ((with_reducible apply wpL_cmp (b := true)); rfl; rfl; rfl; (first | rfl | assumption | (simp only [cmpB, decide_eq_true_eq, decide_eq_false_iff_not, beq_iff_eq, bne_iff_ne, ne_eq, beq_eq_false_iff_ne, bne_eq_false_iff_eq, gt_iff_lt, ge_iff_le]; omega) | (simp; omega)); rfl)
                      | ((with_reducible apply wpL_cmp (b := false)); rfl; rfl; rfl; (first | rfl | assumption | (simp only [cmpB, decide_eq_true_eq, decide_eq_false_iff_not, beq_iff_eq, bne_iff_ne, ne_eq, beq_eq_false_iff_ne, bne_eq_false_iff_eq, gt_iff_lt, ge_iff_le]; omega) | (simp; omega)); rfl)
                      | ((with_reducible apply wpL_cmp); rfl; rfl; rfl; rfl; rfl)
                      | ((with_reducible apply wpL_arith); rfl; rfl; rfl; (exact IntWalk.i64_in _ (by (try simp only [arithI]); omega)); rfl)); (try simp only [arithI, Act.put, Act.eval, List.setIfInBounds_toArray, List.set_cons_succ, List.set_cons_zero, Array.getD_eq_getD_getElem?, List.getElem?_toArray, List.getElem?_cons_succ, List.getElem?_cons_zero, Option.getD_some])))
                obtain ⟨ad1, cc1, e⟩ := HH.out.sl2.some (by have := HKL.out; omega)
                cases e
                refine wp_region_holds (by kernel_rfl) (by kernel_rfl) HH.out ?_
                repeat ((first
                  | ((with_reducible apply wpQ_skip); rfl; skip)
                  | ((with_reducible apply wpQ_index (dst := some 78) kE46 (j := k)); rfl; rfl; rfl; (exact HKL.out); rfl)
                  | ((with_reducible apply wpQ_loadEl (dst := some 79) (v := y) kA34 (fun wq hwq => get_as (show Arrs wq (.slice (some ad1) l.length cap1) l from Holds.sl2 hwq) HKL.out (HY.out _))); rfl; rfl)
                  | ((with_reducible apply wpQ_neqA (b := b1) (p := x) (q := y) kR34); rfl; rfl; (exact HB1.out); rfl)
                  | ((with_reducible apply wpQ_nilCheck); rfl; rfl)
                  | ((with_reducible apply wpQ_fieldAddr); (first | exact kF79_0 | exact kF79_1 | exact kF79_2 | exact kF82_0 | exact kF82_1 | exact kF82_2); rfl; rfl)
                  | ((with_reducible apply wpQ_load1 (t := 3) kO3); rfl; (repeat (first | exact .here | refine .there ?_)); rfl; rfl)
                  | ((with_reducible apply wpQ_load1 (t := 30) kO30); rfl; (repeat (first | exact .here | refine .there ?_)); rfl; rfl)
                  | ((with_reducible apply wpQ_loadArr (t := 34) kA34); rfl; (repeat (first | exact .here | refine .there ?_)); rfl)
                  | ((with_reducible apply wpQ_loadArr (t := 41) kA41); rfl; (repeat (first | exact .here | refine .there ?_)); rfl)
                  | ((with_reducible apply wpQ_loadC (t := 80) kA80); rfl; (repeat (first | exact .here | refine .there ?_)); (first | rfl | exact Arr.len _ | (simp; done)); rfl)
                  | ((with_reducible apply wpQ_loadC (t := 82) kA82); rfl; (repeat (first | exact .here | refine .there ?_)); (first | rfl | exact Arr.len _ | (simp; done)); rfl)
                  | ((with_reducible apply wpQ_len (t := 30) Try.underlying30); rfl; rfl)
                  | ((with_reducible apply wpQ_len (t := 46) Try.underlying46); rfl; rfl)
                  | ((with_reducible apply wpQ_move); rfl; rfl)
                  | ((with_reducible apply wpQ_assign); rfl; rfl)
                  | ((with_reducible apply wpQ_pick); rfl; rfl; rfl)
                  | ((with_reducible apply wpQ_not); rfl; rfl)
                  | ((with_reducible apply wpQ_cmp (b := true)); rfl; rfl; rfl; (first | rfl | assumption | (simp only [cmpB, decide_eq_true_eq, decide_eq_false_iff_not, beq_iff_eq, bne_iff_ne, ne_eq, beq_eq_false_iff_ne, bne_eq_false_iff_eq, gt_iff_lt, ge_iff_le]; omega) | (simp; omega)); rfl)
                  | ((with_reducible apply wpQ_cmp (b := false)); rfl; rfl; rfl; (first | rfl | assumption | (simp only [cmpB, decide_eq_true_eq, decide_eq_false_iff_not, beq_iff_eq, bne_iff_ne, ne_eq, beq_eq_false_iff_ne, bne_eq_false_iff_eq, gt_iff_lt, ge_iff_le]; omega) | (simp; omega)); rfl)
                  | ((with_reducible apply wpQ_cmp); rfl; rfl; rfl; rfl; rfl)
                  | ((with_reducible apply wpQ_arith); rfl; rfl; rfl; (exact IntWalk.i64_in _ (by (try simp only [arithI]); omega)); rfl)); (try simp only [if_true, if_false, Bool.false_eq_true, arithI, Act.put, Act.eval, List.setIfInBounds_toArray, List.set_cons_succ, List.set_cons_zero, Array.getD_eq_getD_getElem?, List.getElem?_toArray, List.getElem?_cons_succ, List.getElem?_cons_zero, Option.getD_some]))
                refine wpQuiet_nil ?_
                intro wq hq_
                have HQ := hid hq_
                clear hq_
                clear HH
                have HH := HQ
                clear HQ
                go_wp2_with (first
                  | ((first
                      | ((with_reducible apply wpL_skip); rfl; skip)
                      | ((with_reducible apply wpL_nilCheck); rfl; rfl)
                      | ((with_reducible apply wpL_fieldAddr); (first | exact kF79_0 | exact kF79_1 | exact kF79_2 | exact kF82_0 | exact kF82_1 | exact kF82_2); rfl; rfl)
                      | ((with_reducible apply wpL_load1 (t := 3) kO3 HH.out); rfl; (repeat (first | exact .here | refine .there ?_)); rfl; rfl)
                      | ((with_reducible apply wpL_load1 (t := 30) kO30 HH.out); rfl; (repeat (first | exact .here | refine .there ?_)); rfl; rfl)
                      | ((with_reducible apply wpL_loadArr (t := 34) kA34 HH.out); rfl; (repeat (first | exact .here | refine .there ?_)); rfl)
                      | ((with_reducible apply wpL_loadArr (t := 41) kA41 HH.out); rfl; (repeat (first | exact .here | refine .there ?_)); rfl)
                      | ((with_reducible apply wpL_loadC (t := 80) kA80 HH.out); rfl; (repeat (first | exact .here | refine .there ?_)); (first | rfl | exact Arr.len _ | (simp; done)); rfl)
                      | ((with_reducible apply wpL_loadC (t := 82) kA82 HH.out); rfl; (repeat (first | exact .here | refine .there ?_)); (first | rfl | exact Arr.len _ | (simp; done)); rfl)
                      | ((with_reducible apply wpL_len (t := 30) Try.underlying30); rfl; rfl)
                      | ((with_reducible apply wpL_len (t := 46) Try.underlying46); rfl; rfl)
                      | ((with_reducible apply wpL_boxC (dst := some 4)); rfl; (exact HH.out); rfl; (intro g4_ w_ hq_; (try simp only [List.set_cons_zero, List.set_cons_succ] at hq_); clear HH; have HH := hid hq_; clear hq_))
                      | ((with_reducible apply wpL_allocC (dst := some 8) kZ41 HH.out); rfl; (intro g8_ w_ hq_; (try simp only [List.set_cons_zero, List.set_cons_succ] at hq_); clear HH; have HH := hid hq_; clear hq_))
                      | ((with_reducible apply wpL_allocC (dst := some 11) kZ34 HH.out); rfl; (intro g11_ w_ hq_; (try simp only [List.set_cons_zero, List.set_cons_succ] at hq_); clear HH; have HH := hid hq_; clear hq_))
                      | ((with_reducible apply wpL_allocC (dst := some 18) kZ82 HH.out); rfl; (intro g18_ w_ hq_; (try simp only [List.set_cons_zero, List.set_cons_succ] at hq_); clear HH; have HH := hid hq_; clear hq_))
                      | ((with_reducible apply wpL_storeArr (t := 34) kS34 HH.out); rfl; rfl; (repeat (first | exact .here | refine .there ?_)); (first | rfl | exact Arr.len _ | (simp; done)); rfl; (intro w_ hq_; (try simp only [List.set_cons_zero, List.set_cons_succ] at hq_); clear HH; have HH := hid hq_; clear hq_))
                      | ((with_reducible apply wpL_storeArr (t := 41) kS41 HH.out); rfl; rfl; (repeat (first | exact .here | refine .there ?_)); (first | rfl | exact Arr.len _ | (simp; done)); rfl; (intro w_ hq_; (try simp only [List.set_cons_zero, List.set_cons_succ] at hq_); clear HH; have HH := hid hq_; clear hq_))
                      | ((with_reducible apply wpL_storeC (t := 82)); rfl; rfl; (exact kS82); (exact HH.out); (repeat (first | exact .here | refine .there ?_)); (first | rfl | exact Arr.len _ | (simp; done)); (first | rfl | (intro u_ hu_; simp only [List.mem_cons, List.not_mem_nil, or_false] at hu_; rcases hu_ with rfl | hu_; rfl) | exact byt_cell1 _ | exact cells_one _ | exact wrd_one _ | exact flat_cell1 _); (first | rfl | exact Arr.len _ | (simp; done)); rfl; (intro w_ hq_; (try simp only [List.set_cons_zero, List.set_cons_succ] at hq_); clear HH; have HH := hid hq_; clear hq_))
                      | ((with_reducible apply wpL_move); rfl; rfl)
                      | ((with_reducible apply wpL_assign); rfl; rfl)
                      | ((with_reducible apply wpL_pick); rfl; rfl; rfl)
                      | ((with_reducible apply wpL_not); rfl; rfl)
                      | ((with_reducible apply wpL_cmp (b := true)); rfl; rfl; rfl; (first | rfl | assumption | (simp only [cmpB, decide_eq_true_eq, decide_eq_false_iff_not, beq_iff_eq, bne_iff_ne, ne_eq, beq_eq_false_iff_ne, bne_eq_false_iff_eq, gt_iff_lt, ge_iff_le]; omega) | (simp; omega)); rfl)
                      | ((with_reducible apply wpL_cmp (b := false)); rfl; rfl; rfl; (first | rfl | assumption | (simp only [cmpB, decide_eq_true_eq, decide_eq_false_iff_not, beq_iff_eq, bne_iff_ne, ne_eq, beq_eq_false_iff_ne, bne_eq_false_iff_eq, gt_iff_lt, ge_iff_le]; omega) | (simp; omega)); rfl)
                      | ((with_reducible apply wpL_cmp); rfl; rfl; rfl; rfl; rfl)
                      | ((with_reducible apply wpL_arith); rfl; rfl; rfl; (exact IntWalk.i64_in _ (by (try simp only [arithI]); omega)); rfl)); (try simp only [arithI, Act.put, Act.eval, List.setIfInBounds_toArray, List.set_cons_succ, List.set_cons_zero, Array.getD_eq_getD_getElem?, List.getElem?_toArray, List.getElem?_cons_succ, List.getElem?_cons_zero, Option.getD_some])))
                try simp only [Bool.not_true]
                go_loopw [16, 17] (FRel w x y p pp [(g11_, objC r.cells 34), (g8_, objC x.cells 41), (g4_, objC (claimCs (k : Int) x (.slice ap pp.length cp)) 79)] [rowA 34 ao3 cap3 pp, rowA 34 ao2 cap2 p, rowA 34 (some ad1) cap1 l]) (fun _ kv _ => pp.length - (intOf kv).toNat)
                case atStart => exact ⟨0, b1, Nat.zero_le _, rfl, rfl, by rw [← HB1.out, Bool.not_eq_false', beq_iff_eq]; exact ⟨fun h => ⟨h, rfl⟩, fun h => h.1⟩, HH.out⟩
                case round =>
                  obtain ⟨j, ch, hj, rfl, rfl, hch, hr⟩ := hrel
                  clear HH
                  have HH := hid hr
                  have HCH := hid hch
                  clear hr hch
                  by_cases hlt : j < pp.length
                  · have HJQ := hid hlt
                    have HJP := hid (show j < p.length from Nat.lt_of_lt_of_eq hlt (show pp.length = p.length from HLQ.out))
                    have hstep : SameTake pp p (j + 1) ↔ (SameTake pp p j ∧ pp.getD j Nd0 = p.getD j Nd0) := take_step HJQ.out HJP.out
                    cases ch with
                    | true =>
                      have HCH2 := hid (show (true = false ↔ x = y ∧ SameTake pp p (j + 1)) from ⟨fun h => (by cases h), fun h => HCH.out.2 ⟨h.1, (hstep.1 h.2).1⟩⟩)
                      clear hstep
                      go_wp2_with (first
                        | ((first
                            | ((with_reducible apply wpL_skip); rfl; skip)
                            | ((with_reducible apply wpL_nilCheck); rfl; rfl)
                            | ((with_reducible apply wpL_fieldAddr); (first | exact kF79_0 | exact kF79_1 | exact kF79_2 | exact kF82_0 | exact kF82_1 | exact kF82_2); rfl; rfl)
                            | ((with_reducible apply wpL_load1 (t := 3) kO3 HH.out); rfl; (repeat (first | exact .here | refine .there ?_)); rfl; rfl)
                            | ((with_reducible apply wpL_load1 (t := 30) kO30 HH.out); rfl; (repeat (first | exact .here | refine .there ?_)); rfl; rfl)
                            | ((with_reducible apply wpL_loadArr (t := 34) kA34 HH.out); rfl; (repeat (first | exact .here | refine .there ?_)); rfl)
                            | ((with_reducible apply wpL_loadArr (t := 41) kA41 HH.out); rfl; (repeat (first | exact .here | refine .there ?_)); rfl)
                            | ((with_reducible apply wpL_loadC (t := 80) kA80 HH.out); rfl; (repeat (first | exact .here | refine .there ?_)); (first | rfl | exact Arr.len _ | (simp; done)); rfl)
                            | ((with_reducible apply wpL_loadC (t := 82) kA82 HH.out); rfl; (repeat (first | exact .here | refine .there ?_)); (first | rfl | exact Arr.len _ | (simp; done)); rfl)
                            | ((with_reducible apply wpL_len (t := 30) Try.underlying30); rfl; rfl)
                            | ((with_reducible apply wpL_len (t := 46) Try.underlying46); rfl; rfl)
                            | ((with_reducible apply wpL_boxC (dst := some 4)); rfl; (exact HH.out); rfl; (intro g4_ w_ hq_; (try simp only [List.set_cons_zero, List.set_cons_succ] at hq_); clear HH; have HH := hid hq_; clear hq_))
                            | ((with_reducible apply wpL_allocC (dst := some 8) kZ41 HH.out); rfl; (intro g8_ w_ hq_; (try simp only [List.set_cons_zero, List.set_cons_succ] at hq_); clear HH; have HH := hid hq_; clear hq_))
                            | ((with_reducible apply wpL_allocC (dst := some 11) kZ34 HH.out); rfl; (intro g11_ w_ hq_; (try simp only [List.set_cons_zero, List.set_cons_succ] at hq_); clear HH; have HH := hid hq_; clear hq_))
                            | ((with_reducible apply wpL_allocC (dst := some 18) kZ82 HH.out); rfl; (intro g18_ w_ hq_; (try simp only [List.set_cons_zero, List.set_cons_succ] at hq_); clear HH; have HH := hid hq_; clear hq_))
                            | ((with_reducible apply wpL_storeArr (t := 34) kS34 HH.out); rfl; rfl; (repeat (first | exact .here | refine .there ?_)); (first | rfl | exact Arr.len _ | (simp; done)); rfl; (intro w_ hq_; (try simp only [List.set_cons_zero, List.set_cons_succ] at hq_); clear HH; have HH := hid hq_; clear hq_))
                            | ((with_reducible apply wpL_storeArr (t := 41) kS41 HH.out); rfl; rfl; (repeat (first | exact .here | refine .there ?_)); (first | rfl | exact Arr.len _ | (simp; done)); rfl; (intro w_ hq_; (try simp only [List.set_cons_zero, List.set_cons_succ] at hq_); clear HH; have HH := hid hq_; clear hq_))
                            | ((with_reducible apply wpL_storeC (t := 82)); rfl; rfl; (exact kS82); (exact HH.out); (repeat (first | exact .here | refine .there ?_)); (first | rfl | exact Arr.len _ | (simp; done)); (first | rfl | (intro u_ hu_; simp only [List.mem_cons, List.not_mem_nil, or_false] at hu_; rcases hu_ with rfl | hu_; rfl) | exact byt_cell1 _ | exact cells_one _ | exact wrd_one _ | exact flat_cell1 _); (first | rfl | exact Arr.len _ | (simp; done)); rfl; (intro w_ hq_; (try simp only [List.set_cons_zero, List.set_cons_succ] at hq_); clear HH; have HH := hid hq_; clear hq_))
                            | ((with_reducible apply wpL_move); rfl; rfl)
                            | ((with_reducible apply wpL_assign); rfl; rfl)
                            | ((with_reducible apply wpL_pick); rfl; rfl; rfl)
                            | ((with_reducible apply wpL_not); rfl; rfl)
                            | ((with_reducible apply wpL_cmp (b := true)); rfl; rfl; rfl; (first | rfl | assumption | (simp only [cmpB, decide_eq_true_eq, decide_eq_false_iff_not, beq_iff_eq, bne_iff_ne, ne_eq, beq_eq_false_iff_ne, bne_eq_false_iff_eq, gt_iff_lt, ge_iff_le]; omega) | (simp; omega)); rfl)
                            | ((with_reducible apply wpL_cmp (b := false)); rfl; rfl; rfl; (first | rfl | assumption | (simp only [cmpB, decide_eq_true_eq, decide_eq_false_iff_not, beq_iff_eq, bne_iff_ne, ne_eq, beq_eq_false_iff_ne, bne_eq_false_iff_eq, gt_iff_lt, ge_iff_le]; omega) | (simp; omega)); rfl)
                            | ((with_reducible apply wpL_cmp); rfl; rfl; rfl; rfl; rfl)
                            | ((with_reducible apply wpL_arith); rfl; rfl; rfl; (exact IntWalk.i64_in _ (by (try simp only [arithI]); omega)); rfl)); (try simp only [arithI, Act.put, Act.eval, List.setIfInBounds_toArray, List.set_cons_succ, List.set_cons_zero, Array.getD_eq_getD_getElem?, List.getElem?_toArray, List.getElem?_cons_succ, List.getElem?_cons_zero, Option.getD_some])))
                      refine wp_region_holds (by kernel_rfl) (by kernel_rfl) HH.out ?_
                      repeat ((first
                        | ((with_reducible apply wpQ_skip); rfl; skip)
                        | ((with_reducible apply wpQ_nilCheck); rfl; rfl)
                        | ((with_reducible apply wpQ_fieldAddr); (first | exact kF79_0 | exact kF79_1 | exact kF79_2 | exact kF82_0 | exact kF82_1 | exact kF82_2); rfl; rfl)
                        | ((with_reducible apply wpQ_load1 (t := 3) kO3); rfl; (repeat (first | exact .here | refine .there ?_)); rfl; rfl)
                        | ((with_reducible apply wpQ_load1 (t := 30) kO30); rfl; (repeat (first | exact .here | refine .there ?_)); rfl; rfl)
                        | ((with_reducible apply wpQ_loadArr (t := 34) kA34); rfl; (repeat (first | exact .here | refine .there ?_)); rfl)
                        | ((with_reducible apply wpQ_loadArr (t := 41) kA41); rfl; (repeat (first | exact .here | refine .there ?_)); rfl)
                        | ((with_reducible apply wpQ_loadC (t := 80) kA80); rfl; (repeat (first | exact .here | refine .there ?_)); (first | rfl | exact Arr.len _ | (simp; done)); rfl)
                        | ((with_reducible apply wpQ_loadC (t := 82) kA82); rfl; (repeat (first | exact .here | refine .there ?_)); (first | rfl | exact Arr.len _ | (simp; done)); rfl)
                        | ((with_reducible apply wpQ_len (t := 30) Try.underlying30); rfl; rfl)
                        | ((with_reducible apply wpQ_len (t := 46) Try.underlying46); rfl; rfl)
                        | ((with_reducible apply wpQ_move); rfl; rfl)
                        | ((with_reducible apply wpQ_assign); rfl; rfl)
                        | ((with_reducible apply wpQ_pick); rfl; rfl; rfl)
                        | ((with_reducible apply wpQ_not); rfl; rfl)
                        | ((with_reducible apply wpQ_cmp (b := true)); rfl; rfl; rfl; (first | rfl | assumption | (simp only [cmpB, decide_eq_true_eq, decide_eq_false_iff_not, beq_iff_eq, bne_iff_ne, ne_eq, beq_eq_false_iff_ne, bne_eq_false_iff_eq, gt_iff_lt, ge_iff_le]; omega) | (simp; omega)); rfl)
                        | ((with_reducible apply wpQ_cmp (b := false)); rfl; rfl; rfl; (first | rfl | assumption | (simp only [cmpB, decide_eq_true_eq, decide_eq_false_iff_not, beq_iff_eq, bne_iff_ne, ne_eq, beq_eq_false_iff_ne, bne_eq_false_iff_eq, gt_iff_lt, ge_iff_le]; omega) | (simp; omega)); rfl)
                        | ((with_reducible apply wpQ_cmp); rfl; rfl; rfl; rfl; rfl)
                        | ((with_reducible apply wpQ_arith); rfl; rfl; rfl; (exact IntWalk.i64_in _ (by (try simp only [arithI]); omega)); rfl)); (try simp only [if_true, if_false, Bool.false_eq_true, arithI, Act.put, Act.eval, List.setIfInBounds_toArray, List.set_cons_succ, List.set_cons_zero, Array.getD_eq_getD_getElem?, List.getElem?_toArray, List.getElem?_cons_succ, List.getElem?_cons_zero, Option.getD_some]))
                      refine wpQuiet_nil ?_
                      intro wq hq_
                      have HQ := hid hq_
                      clear hq_
                      clear HH
                      have HH := HQ
                      clear HQ
                      go_wp2_with (first
                        | ((first
                            | ((with_reducible apply wpL_skip); rfl; skip)
                            | ((with_reducible apply wpL_nilCheck); rfl; rfl)
                            | ((with_reducible apply wpL_fieldAddr); (first | exact kF79_0 | exact kF79_1 | exact kF79_2 | exact kF82_0 | exact kF82_1 | exact kF82_2); rfl; rfl)
                            | ((with_reducible apply wpL_load1 (t := 3) kO3 HH.out); rfl; (repeat (first | exact .here | refine .there ?_)); rfl; rfl)
                            | ((with_reducible apply wpL_load1 (t := 30) kO30 HH.out); rfl; (repeat (first | exact .here | refine .there ?_)); rfl; rfl)
                            | ((with_reducible apply wpL_loadArr (t := 34) kA34 HH.out); rfl; (repeat (first | exact .here | refine .there ?_)); rfl)
                            | ((with_reducible apply wpL_loadArr (t := 41) kA41 HH.out); rfl; (repeat (first | exact .here | refine .there ?_)); rfl)
                            | ((with_reducible apply wpL_loadC (t := 80) kA80 HH.out); rfl; (repeat (first | exact .here | refine .there ?_)); (first | rfl | exact Arr.len _ | (simp; done)); rfl)
                            | ((with_reducible apply wpL_loadC (t := 82) kA82 HH.out); rfl; (repeat (first | exact .here | refine .there ?_)); (first | rfl | exact Arr.len _ | (simp; done)); rfl)
                            | ((with_reducible apply wpL_len (t := 30) Try.underlying30); rfl; rfl)
                            | ((with_reducible apply wpL_len (t := 46) Try.underlying46); rfl; rfl)
                            | ((with_reducible apply wpL_boxC (dst := some 4)); rfl; (exact HH.out); rfl; (intro g4_ w_ hq_; (try simp only [List.set_cons_zero, List.set_cons_succ] at hq_); clear HH; have HH := hid hq_; clear hq_))
                            | ((with_reducible apply wpL_allocC (dst := some 8) kZ41 HH.out); rfl; (intro g8_ w_ hq_; (try simp only [List.set_cons_zero, List.set_cons_succ] at hq_); clear HH; have HH := hid hq_; clear hq_))
                            | ((with_reducible apply wpL_allocC (dst := some 11) kZ34 HH.out); rfl; (intro g11_ w_ hq_; (try simp only [List.set_cons_zero, List.set_cons_succ] at hq_); clear HH; have HH := hid hq_; clear hq_))
                            | ((with_reducible apply wpL_allocC (dst := some 18) kZ82 HH.out); rfl; (intro g18_ w_ hq_; (try simp only [List.set_cons_zero, List.set_cons_succ] at hq_); clear HH; have HH := hid hq_; clear hq_))
                            | ((with_reducible apply wpL_storeArr (t := 34) kS34 HH.out); rfl; rfl; (repeat (first | exact .here | refine .there ?_)); (first | rfl | exact Arr.len _ | (simp; done)); rfl; (intro w_ hq_; (try simp only [List.set_cons_zero, List.set_cons_succ] at hq_); clear HH; have HH := hid hq_; clear hq_))
                            | ((with_reducible apply wpL_storeArr (t := 41) kS41 HH.out); rfl; rfl; (repeat (first | exact .here | refine .there ?_)); (first | rfl | exact Arr.len _ | (simp; done)); rfl; (intro w_ hq_; (try simp only [List.set_cons_zero, List.set_cons_succ] at hq_); clear HH; have HH := hid hq_; clear hq_))
                            | ((with_reducible apply wpL_storeC (t := 82)); rfl; rfl; (exact kS82); (exact HH.out); (repeat (first | exact .here | refine .there ?_)); (first | rfl | exact Arr.len _ | (simp; done)); (first | rfl | (intro u_ hu_; simp only [List.mem_cons, List.not_mem_nil, or_false] at hu_; rcases hu_ with rfl | hu_; rfl) | exact byt_cell1 _ | exact cells_one _ | exact wrd_one _ | exact flat_cell1 _); (first | rfl | exact Arr.len _ | (simp; done)); rfl; (intro w_ hq_; (try simp only [List.set_cons_zero, List.set_cons_succ] at hq_); clear HH; have HH := hid hq_; clear hq_))
                            | ((with_reducible apply wpL_move); rfl; rfl)
                            | ((with_reducible apply wpL_assign); rfl; rfl)
                            | ((with_reducible apply wpL_pick); rfl; rfl; rfl)
                            | ((with_reducible apply wpL_not); rfl; rfl)
                            | ((with_reducible apply wpL_cmp (b := true)); rfl; rfl; rfl; (first | rfl | assumption | (simp only [cmpB, decide_eq_true_eq, decide_eq_false_iff_not, beq_iff_eq, bne_iff_ne, ne_eq, beq_eq_false_iff_ne, bne_eq_false_iff_eq, gt_iff_lt, ge_iff_le]; omega) | (simp; omega)); rfl)
                            | ((with_reducible apply wpL_cmp (b := false)); rfl; rfl; rfl; (first | rfl | assumption | (simp only [cmpB, decide_eq_true_eq, decide_eq_false_iff_not, beq_iff_eq, bne_iff_ne, ne_eq, beq_eq_false_iff_ne, bne_eq_false_iff_eq, gt_iff_lt, ge_iff_le]; omega) | (simp; omega)); rfl)
                            | ((with_reducible apply wpL_cmp); rfl; rfl; rfl; rfl; rfl)
                            | ((with_reducible apply wpL_arith); rfl; rfl; rfl; (exact IntWalk.i64_in _ (by (try simp only [arithI]); omega)); rfl)); (try simp only [arithI, Act.put, Act.eval, List.setIfInBounds_toArray, List.set_cons_succ, List.set_cons_zero, Array.getD_eq_getD_getElem?, List.getElem?_toArray, List.getElem?_cons_succ, List.getElem?_cons_zero, Option.getD_some])))
                      go_roundw
                      case rel => exact ⟨j + 1, true, by omega, by go_num, rfl, HCH2.out, HH.out⟩
                      case measure => simp [intOf]; omega
                    | false =>
                      obtain ⟨qj, hqj⟩ : ∃ qj, pp.getD j Nd0 = qj := ⟨_, rfl⟩
                      obtain ⟨pj, hpj⟩ : ∃ pj, p.getD j Nd0 = pj := ⟨_, rfl⟩
                      obtain ⟨b2, hb2⟩ : ∃ b2, (!(qj == pj)) = b2 := ⟨_, rfl⟩
                      have hstep2 : SameTake pp p (j + 1) ↔ (SameTake pp p j ∧ qj = pj) := by rw [← hqj, ← hpj]; exact hstep
                      have HB2 := hid hb2
                      have HQJ := hid (show ∀ pf : j < pp.length, pp[j]'pf = qj from fun pf => by rw [← hqj]; simp [pf])
                      have HPJ := hid (show ∀ pf : j < p.length, p[j]'pf = pj from fun pf => by rw [← hpj]; simp [pf])
                      have HCH2 := hid (show (b2 = false ↔ x = y ∧ SameTake pp p (j + 1)) by
                        rw [hstep2, ← hb2, Bool.not_eq_false', beq_iff_eq]
                        exact ⟨fun h => ⟨(HCH.out.1 rfl).1, (HCH.out.1 rfl).2, h⟩, fun h => h.2.2⟩)
                      clear hstep hstep2 hqj hpj hb2
                      obtain ⟨adq, ccq, e⟩ := HH.out.sl0.some (by omega)
                      cases e
                      obtain ⟨adp, ccp, e⟩ := HH.out.sl1.some (by have := HJP.out; omega)
                      cases e
                      go_wp2_with (first
                        | ((first
                            | ((with_reducible apply wpL_skip); rfl; skip)
                            | ((with_reducible apply wpL_nilCheck); rfl; rfl)
                            | ((with_reducible apply wpL_fieldAddr); (first | exact kF79_0 | exact kF79_1 | exact kF79_2 | exact kF82_0 | exact kF82_1 | exact kF82_2); rfl; rfl)
                            | ((with_reducible apply wpL_load1 (t := 3) kO3 HH.out); rfl; (repeat (first | exact .here | refine .there ?_)); rfl; rfl)
                            | ((with_reducible apply wpL_load1 (t := 30) kO30 HH.out); rfl; (repeat (first | exact .here | refine .there ?_)); rfl; rfl)
                            | ((with_reducible apply wpL_loadArr (t := 34) kA34 HH.out); rfl; (repeat (first | exact .here | refine .there ?_)); rfl)
                            | ((with_reducible apply wpL_loadArr (t := 41) kA41 HH.out); rfl; (repeat (first | exact .here | refine .there ?_)); rfl)
                            | ((with_reducible apply wpL_loadC (t := 80) kA80 HH.out); rfl; (repeat (first | exact .here | refine .there ?_)); (first | rfl | exact Arr.len _ | (simp; done)); rfl)
                            | ((with_reducible apply wpL_loadC (t := 82) kA82 HH.out); rfl; (repeat (first | exact .here | refine .there ?_)); (first | rfl | exact Arr.len _ | (simp; done)); rfl)
                            | ((with_reducible apply wpL_len (t := 30) Try.underlying30); rfl; rfl)
                            | ((with_reducible apply wpL_len (t := 46) Try.underlying46); rfl; rfl)
                            | ((with_reducible apply wpL_boxC (dst := some 4)); rfl; (exact HH.out); rfl; (intro g4_ w_ hq_; (try simp only [List.set_cons_zero, List.set_cons_succ] at hq_); clear HH; have HH := hid hq_; clear hq_))
                            | ((with_reducible apply wpL_allocC (dst := some 8) kZ41 HH.out); rfl; (intro g8_ w_ hq_; (try simp only [List.set_cons_zero, List.set_cons_succ] at hq_); clear HH; have HH := hid hq_; clear hq_))
                            | ((with_reducible apply wpL_allocC (dst := some 11) kZ34 HH.out); rfl; (intro g11_ w_ hq_; (try simp only [List.set_cons_zero, List.set_cons_succ] at hq_); clear HH; have HH := hid hq_; clear hq_))
                            | ((with_reducible apply wpL_allocC (dst := some 18) kZ82 HH.out); rfl; (intro g18_ w_ hq_; (try simp only [List.set_cons_zero, List.set_cons_succ] at hq_); clear HH; have HH := hid hq_; clear hq_))
                            | ((with_reducible apply wpL_storeArr (t := 34) kS34 HH.out); rfl; rfl; (repeat (first | exact .here | refine .there ?_)); (first | rfl | exact Arr.len _ | (simp; done)); rfl; (intro w_ hq_; (try simp only [List.set_cons_zero, List.set_cons_succ] at hq_); clear HH; have HH := hid hq_; clear hq_))
                            | ((with_reducible apply wpL_storeArr (t := 41) kS41 HH.out); rfl; rfl; (repeat (first | exact .here | refine .there ?_)); (first | rfl | exact Arr.len _ | (simp; done)); rfl; (intro w_ hq_; (try simp only [List.set_cons_zero, List.set_cons_succ] at hq_); clear HH; have HH := hid hq_; clear hq_))
                            | ((with_reducible apply wpL_storeC (t := 82)); rfl; rfl; (exact kS82); (exact HH.out); (repeat (first | exact .here | refine .there ?_)); (first | rfl | exact Arr.len _ | (simp; done)); (first | rfl | (intro u_ hu_; simp only [List.mem_cons, List.not_mem_nil, or_false] at hu_; rcases hu_ with rfl | hu_; rfl) | exact byt_cell1 _ | exact cells_one _ | exact wrd_one _ | exact flat_cell1 _); (first | rfl | exact Arr.len _ | (simp; done)); rfl; (intro w_ hq_; (try simp only [List.set_cons_zero, List.set_cons_succ] at hq_); clear HH; have HH := hid hq_; clear hq_))
                            | ((with_reducible apply wpL_move); rfl; rfl)
                            | ((with_reducible apply wpL_assign); rfl; rfl)
                            | ((with_reducible apply wpL_pick); rfl; rfl; rfl)
                            | ((with_reducible apply wpL_not); rfl; rfl)
                            | ((with_reducible apply wpL_cmp (b := true)); rfl; rfl; rfl; (first | rfl | assumption | (simp only [cmpB, decide_eq_true_eq, decide_eq_false_iff_not, beq_iff_eq, bne_iff_ne, ne_eq, beq_eq_false_iff_ne, bne_eq_false_iff_eq, gt_iff_lt, ge_iff_le]; omega) | (simp; omega)); rfl)
                            | ((with_reducible apply wpL_cmp (b := false)); rfl; rfl; rfl; (first | rfl | assumption | (simp only [cmpB, decide_eq_true_eq, decide_eq_false_iff_not, beq_iff_eq, bne_iff_ne, ne_eq, beq_eq_false_iff_ne, bne_eq_false_iff_eq, gt_iff_lt, ge_iff_le]; omega) | (simp; omega)); rfl)
                            | ((with_reducible apply wpL_cmp); rfl; rfl; rfl; rfl; rfl)
                            | ((with_reducible apply wpL_arith); rfl; rfl; rfl; (exact IntWalk.i64_in _ (by (try simp only [arithI]); omega)); rfl)); (try simp only [arithI, Act.put, Act.eval, List.setIfInBounds_toArray, List.set_cons_succ, List.set_cons_zero, Array.getD_eq_getD_getElem?, List.getElem?_toArray, List.getElem?_cons_succ, List.getElem?_cons_zero, Option.getD_some])))
                      refine wp_region_holds (by kernel_rfl) (by kernel_rfl) HH.out ?_
                      repeat ((first
                        | ((with_reducible apply wpQ_skip); rfl; skip)
                        | ((with_reducible apply wpQ_index (dst := some 91) kE46 (j := j)); rfl; rfl; rfl; (exact HJQ.out); rfl)
                        | ((with_reducible apply wpQ_index (dst := some 95) kE46 (j := j)); rfl; rfl; rfl; (exact HJP.out); rfl)
                        | ((with_reducible apply wpQ_loadEl (dst := some 92) (v := qj) kA34 (fun wq hwq => get_as (Holds.sl0 hwq) HJQ.out (HQJ.out _))); rfl; rfl)
                        | ((with_reducible apply wpQ_loadEl (dst := some 96) (v := pj) kA34 (fun wq hwq => get_as (Holds.sl1 hwq) HJP.out (HPJ.out _))); rfl; rfl)
                        | ((with_reducible apply wpQ_neqA (b := b2) (p := qj) (q := pj) kR34); rfl; rfl; (exact HB2.out); rfl)
                        | ((with_reducible apply wpQ_nilCheck); rfl; rfl)
                        | ((with_reducible apply wpQ_fieldAddr); (first | exact kF79_0 | exact kF79_1 | exact kF79_2 | exact kF82_0 | exact kF82_1 | exact kF82_2); rfl; rfl)
                        | ((with_reducible apply wpQ_load1 (t := 3) kO3); rfl; (repeat (first | exact .here | refine .there ?_)); rfl; rfl)
                        | ((with_reducible apply wpQ_load1 (t := 30) kO30); rfl; (repeat (first | exact .here | refine .there ?_)); rfl; rfl)
                        | ((with_reducible apply wpQ_loadArr (t := 34) kA34); rfl; (repeat (first | exact .here | refine .there ?_)); rfl)
                        | ((with_reducible apply wpQ_loadArr (t := 41) kA41); rfl; (repeat (first | exact .here | refine .there ?_)); rfl)
                        | ((with_reducible apply wpQ_loadC (t := 80) kA80); rfl; (repeat (first | exact .here | refine .there ?_)); (first | rfl | exact Arr.len _ | (simp; done)); rfl)
                        | ((with_reducible apply wpQ_loadC (t := 82) kA82); rfl; (repeat (first | exact .here | refine .there ?_)); (first | rfl | exact Arr.len _ | (simp; done)); rfl)
                        | ((with_reducible apply wpQ_len (t := 30) Try.underlying30); rfl; rfl)
                        | ((with_reducible apply wpQ_len (t := 46) Try.underlying46); rfl; rfl)
                        | ((with_reducible apply wpQ_move); rfl; rfl)
                        | ((with_reducible apply wpQ_assign); rfl; rfl)
                        | ((with_reducible apply wpQ_pick); rfl; rfl; rfl)
                        | ((with_reducible apply wpQ_not); rfl; rfl)
                        | ((with_reducible apply wpQ_cmp (b := true)); rfl; rfl; rfl; (first | rfl | assumption | (simp only [cmpB, decide_eq_true_eq, decide_eq_false_iff_not, beq_iff_eq, bne_iff_ne, ne_eq, beq_eq_false_iff_ne, bne_eq_false_iff_eq, gt_iff_lt, ge_iff_le]; omega) | (simp; omega)); rfl)
                        | ((with_reducible apply wpQ_cmp (b := false)); rfl; rfl; rfl; (first | rfl | assumption | (simp only [cmpB, decide_eq_true_eq, decide_eq_false_iff_not, beq_iff_eq, bne_iff_ne, ne_eq, beq_eq_false_iff_ne, bne_eq_false_iff_eq, gt_iff_lt, ge_iff_le]; omega) | (simp; omega)); rfl)
                        | ((with_reducible apply wpQ_cmp); rfl; rfl; rfl; rfl; rfl)
                        | ((with_reducible apply wpQ_arith); rfl; rfl; rfl; (exact IntWalk.i64_in _ (by (try simp only [arithI]); omega)); rfl)); (try simp only [if_true, if_false, Bool.false_eq_true, arithI, Act.put, Act.eval, List.setIfInBounds_toArray, List.set_cons_succ, List.set_cons_zero, Array.getD_eq_getD_getElem?, List.getElem?_toArray, List.getElem?_cons_succ, List.getElem?_cons_zero, Option.getD_some]))
                      refine wpQuiet_nil ?_
                      intro wq hq_
                      have HQ := hid hq_
                      clear hq_
                      clear HH
                      have HH := HQ
                      clear HQ
                      go_wp2_with (first
                        | ((first
                            | ((with_reducible apply wpL_skip); rfl; skip)
                            | ((with_reducible apply wpL_nilCheck); rfl; rfl)
                            | ((with_reducible apply wpL_fieldAddr); (first | exact kF79_0 | exact kF79_1 | exact kF79_2 | exact kF82_0 | exact kF82_1 | exact kF82_2); rfl; rfl)
                            | ((with_reducible apply wpL_load1 (t := 3) kO3 HH.out); rfl; (repeat (first | exact .here | refine .there ?_)); rfl; rfl)
                            | ((with_reducible apply wpL_load1 (t := 30) kO30 HH.out); rfl; (repeat (first | exact .here | refine .there ?_)); rfl; rfl)
                            | ((with_reducible apply wpL_loadArr (t := 34) kA34 HH.out); rfl; (repeat (first | exact .here | refine .there ?_)); rfl)
                            | ((with_reducible apply wpL_loadArr (t := 41) kA41 HH.out); rfl; (repeat (first | exact .here | refine .there ?_)); rfl)
                            | ((with_reducible apply wpL_loadC (t := 80) kA80 HH.out); rfl; (repeat (first | exact .here | refine .there ?_)); (first | rfl | exact Arr.len _ | (simp; done)); rfl)
                            | ((with_reducible apply wpL_loadC (t := 82) kA82 HH.out); rfl; (repeat (first | exact .here | refine .there ?_)); (first | rfl | exact Arr.len _ | (simp; done)); rfl)
                            | ((with_reducible apply wpL_len (t := 30) Try.underlying30); rfl; rfl)
                            | ((with_reducible apply wpL_len (t := 46) Try.underlying46); rfl; rfl)
                            | ((with_reducible apply wpL_boxC (dst := some 4)); rfl; (exact HH.out); rfl; (intro g4_ w_ hq_; (try simp only [List.set_cons_zero, List.set_cons_succ] at hq_); clear HH; have HH := hid hq_; clear hq_))
                            | ((with_reducible apply wpL_allocC (dst := some 8) kZ41 HH.out); rfl; (intro g8_ w_ hq_; (try simp only [List.set_cons_zero, List.set_cons_succ] at hq_); clear HH; have HH := hid hq_; clear hq_))
                            | ((with_reducible apply wpL_allocC (dst := some 11) kZ34 HH.out); rfl; (intro g11_ w_ hq_; (try simp only [List.set_cons_zero, List.set_cons_succ] at hq_); clear HH; have HH := hid hq_; clear hq_))
                            | ((with_reducible apply wpL_allocC (dst := some 18) kZ82 HH.out); rfl; (intro g18_ w_ hq_; (try simp only [List.set_cons_zero, List.set_cons_succ] at hq_); clear HH; have HH := hid hq_; clear hq_))
                            | ((with_reducible apply wpL_storeArr (t := 34) kS34 HH.out); rfl; rfl; (repeat (first | exact .here | refine .there ?_)); (first | rfl | exact Arr.len _ | (simp; done)); rfl; (intro w_ hq_; (try simp only [List.set_cons_zero, List.set_cons_succ] at hq_); clear HH; have HH := hid hq_; clear hq_))
                            | ((with_reducible apply wpL_storeArr (t := 41) kS41 HH.out); rfl; rfl; (repeat (first | exact .here | refine .there ?_)); (first | rfl | exact Arr.len _ | (simp; done)); rfl; (intro w_ hq_; (try simp only [List.set_cons_zero, List.set_cons_succ] at hq_); clear HH; have HH := hid hq_; clear hq_))
                            | ((with_reducible apply wpL_storeC (t := 82)); rfl; rfl; (exact kS82); (exact HH.out); (repeat (first | exact .here | refine .there ?_)); (first | rfl | exact Arr.len _ | (simp; done)); (first | rfl | (intro u_ hu_; simp only [List.mem_cons, List.not_mem_nil, or_false] at hu_; rcases hu_ with rfl | hu_; rfl) | exact byt_cell1 _ | exact cells_one _ | exact wrd_one _ | exact flat_cell1 _); (first | rfl | exact Arr.len _ | (simp; done)); rfl; (intro w_ hq_; (try simp only [List.set_cons_zero, List.set_cons_succ] at hq_); clear HH; have HH := hid hq_; clear hq_))
                            | ((with_reducible apply wpL_move); rfl; rfl)
                            | ((with_reducible apply wpL_assign); rfl; rfl)
                            | ((with_reducible apply wpL_pick); rfl; rfl; rfl)
                            | ((with_reducible apply wpL_not); rfl; rfl)
                            | ((with_reducible apply wpL_cmp (b := true)); rfl; rfl; rfl; (first | rfl | assumption | (simp only [cmpB, decide_eq_true_eq, decide_eq_false_iff_not, beq_iff_eq, bne_iff_ne, ne_eq, beq_eq_false_iff_ne, bne_eq_false_iff_eq, gt_iff_lt, ge_iff_le]; omega) | (simp; omega)); rfl)
                            | ((with_reducible apply wpL_cmp (b := false)); rfl; rfl; rfl; (first | rfl | assumption | (simp only [cmpB, decide_eq_true_eq, decide_eq_false_iff_not, beq_iff_eq, bne_iff_ne, ne_eq, beq_eq_false_iff_ne, bne_eq_false_iff_eq, gt_iff_lt, ge_iff_le]; omega) | (simp; omega)); rfl)
                            | ((with_reducible apply wpL_cmp); rfl; rfl; rfl; rfl; rfl)
                            | ((with_reducible apply wpL_arith); rfl; rfl; rfl; (exact IntWalk.i64_in _ (by (try simp only [arithI]); omega)); rfl)); (try simp only [arithI, Act.put, Act.eval, List.setIfInBounds_toArray, List.set_cons_succ, List.set_cons_zero, Array.getD_eq_getD_getElem?, List.getElem?_toArray, List.getElem?_cons_succ, List.getElem?_cons_zero, Option.getD_some])))
                      go_roundw
                      case rel => exact ⟨j + 1, b2, by omega, by go_num, rfl, HCH2.out, HH.out⟩
                      case measure => simp [intOf]; omega
                  · obtain rfl : j = pp.length := by omega
                    have HCE := hid (show ch = false ↔ x = y ∧ SameList pp p by
                      have h := HCH.out
                      have e : SameTake pp p pp.length ↔ SameList pp p := by
                        have e1 : pp.take pp.length = pp := List.take_length
                        have e2 : p.take pp.length = p := List.take_of_length_le (Nat.le_of_eq (show pp.length = p.length from HLQ.out).symm)
                        unfold SameTake SameList
                        simp only [e1, e2]
                      rw [e] at h
                      exact h)
                    cases ch with
                    | false =>
                      have HO := hid (HCV.out.trans (HFG.out.1 (HCE.out.1 rfl)))
                      have HTUP := hid (show (Value.tuple #[.agg (twoCs 0 zP zP).toArray, .bool (decide ((0 : Int) < 0))]) = .tuple #[.agg (twoCs 0 zP zP).toArray, .bool false] from rfl)
                      go_wp2_with (first
                        | ((first
                            | ((with_reducible apply wpL_skip); rfl; skip)
                            | ((with_reducible apply wpL_nilCheck); rfl; rfl)
                            | ((with_reducible apply wpL_fieldAddr); (first | exact kF79_0 | exact kF79_1 | exact kF79_2 | exact kF82_0 | exact kF82_1 | exact kF82_2); rfl; rfl)
                            | ((with_reducible apply wpL_load1 (t := 3) kO3 HH.out); rfl; (repeat (first | exact .here | refine .there ?_)); rfl; rfl)
                            | ((with_reducible apply wpL_load1 (t := 30) kO30 HH.out); rfl; (repeat (first | exact .here | refine .there ?_)); rfl; rfl)
                            | ((with_reducible apply wpL_loadArr (t := 34) kA34 HH.out); rfl; (repeat (first | exact .here | refine .there ?_)); rfl)
                            | ((with_reducible apply wpL_loadArr (t := 41) kA41 HH.out); rfl; (repeat (first | exact .here | refine .there ?_)); rfl)
                            | ((with_reducible apply wpL_loadC (t := 80) kA80 HH.out); rfl; (repeat (first | exact .here | refine .there ?_)); (first | rfl | exact Arr.len _ | (simp; done)); rfl)
                            | ((with_reducible apply wpL_loadC (t := 82) kA82 HH.out); rfl; (repeat (first | exact .here | refine .there ?_)); (first | rfl | exact Arr.len _ | (simp; done)); rfl)
                            | ((with_reducible apply wpL_len (t := 30) Try.underlying30); rfl; rfl)
                            | ((with_reducible apply wpL_len (t := 46) Try.underlying46); rfl; rfl)
                            | ((with_reducible apply wpL_boxC (dst := some 4)); rfl; (exact HH.out); rfl; (intro g4_ w_ hq_; (try simp only [List.set_cons_zero, List.set_cons_succ] at hq_); clear HH; have HH := hid hq_; clear hq_))
                            | ((with_reducible apply wpL_allocC (dst := some 8) kZ41 HH.out); rfl; (intro g8_ w_ hq_; (try simp only [List.set_cons_zero, List.set_cons_succ] at hq_); clear HH; have HH := hid hq_; clear hq_))
                            | ((with_reducible apply wpL_allocC (dst := some 11) kZ34 HH.out); rfl; (intro g11_ w_ hq_; (try simp only [List.set_cons_zero, List.set_cons_succ] at hq_); clear HH; have HH := hid hq_; clear hq_))
                            | ((with_reducible apply wpL_allocC (dst := some 18) kZ82 HH.out); rfl; (intro g18_ w_ hq_; (try simp only [List.set_cons_zero, List.set_cons_succ] at hq_); clear HH; have HH := hid hq_; clear hq_))
                            | ((with_reducible apply wpL_storeArr (t := 34) kS34 HH.out); rfl; rfl; (repeat (first | exact .here | refine .there ?_)); (first | rfl | exact Arr.len _ | (simp; done)); rfl; (intro w_ hq_; (try simp only [List.set_cons_zero, List.set_cons_succ] at hq_); clear HH; have HH := hid hq_; clear hq_))
                            | ((with_reducible apply wpL_storeArr (t := 41) kS41 HH.out); rfl; rfl; (repeat (first | exact .here | refine .there ?_)); (first | rfl | exact Arr.len _ | (simp; done)); rfl; (intro w_ hq_; (try simp only [List.set_cons_zero, List.set_cons_succ] at hq_); clear HH; have HH := hid hq_; clear hq_))
                            | ((with_reducible apply wpL_storeC (t := 82)); rfl; rfl; (exact kS82); (exact HH.out); (repeat (first | exact .here | refine .there ?_)); (first | rfl | exact Arr.len _ | (simp; done)); (first | rfl | (intro u_ hu_; simp only [List.mem_cons, List.not_mem_nil, or_false] at hu_; rcases hu_ with rfl | hu_; rfl) | exact byt_cell1 _ | exact cells_one _ | exact wrd_one _ | exact flat_cell1 _); (first | rfl | exact Arr.len _ | (simp; done)); rfl; (intro w_ hq_; (try simp only [List.set_cons_zero, List.set_cons_succ] at hq_); clear HH; have HH := hid hq_; clear hq_))
                            | ((with_reducible apply wpL_move); rfl; rfl)
                            | ((with_reducible apply wpL_assign); rfl; rfl)
                            | ((with_reducible apply wpL_pick); rfl; rfl; rfl)
                            | ((with_reducible apply wpL_not); rfl; rfl)
                            | ((with_reducible apply wpL_cmp (b := true)); rfl; rfl; rfl; (first | rfl | assumption | (simp only [cmpB, decide_eq_true_eq, decide_eq_false_iff_not, beq_iff_eq, bne_iff_ne, ne_eq, beq_eq_false_iff_ne, bne_eq_false_iff_eq, gt_iff_lt, ge_iff_le]; omega) | (simp; omega)); rfl)
                            | ((with_reducible apply wpL_cmp (b := false)); rfl; rfl; rfl; (first | rfl | assumption | (simp only [cmpB, decide_eq_true_eq, decide_eq_false_iff_not, beq_iff_eq, bne_iff_ne, ne_eq, beq_eq_false_iff_ne, bne_eq_false_iff_eq, gt_iff_lt, ge_iff_le]; omega) | (simp; omega)); rfl)
                            | ((with_reducible apply wpL_cmp); rfl; rfl; rfl; rfl; rfl)
                            | ((with_reducible apply wpL_arith); rfl; rfl; rfl; (exact IntWalk.i64_in _ (by (try simp only [arithI]); omega)); rfl)); (try simp only [arithI, Act.put, Act.eval, List.setIfInBounds_toArray, List.set_cons_succ, List.set_cons_zero, Array.getD_eq_getD_getElem?, List.getElem?_toArray, List.getElem?_cons_succ, List.getElem?_cons_zero, Option.getD_some])))
                      refine wp_region_F [(fun u_ => u_ = (.int .i64 (k : Int))), (fun u_ => u_ = (.slice (some ad1) l.length cap1)), (fun u_ => u_ = (.int .i64 (k : Int))), (fun u_ => u_ = (.pointer (some (ad1.add (k * 16))))), (fun u_ => u_ = y.val), (fun u_ => u_ = (.slice ao2 p.length cap2)), (fun u_ => u_ = x.val), (fun u_ => u_ = (.slice ao3 pp.length cap3)), (fun u_ => u_ = (.tuple #[.agg (twoCs 0 zP zP).toArray, .bool false])), (fun u_ => u_ = (.tuple #[.agg (twoCs 0 zP zP).toArray, .bool false])), (fun u_ => u_ = (.agg (twoCs 0 zP zP).toArray)), (fun u_ => u_ = (.bool false)), (isPtr), (fun _ => True), (fun u_ => u_ = (.bool false))] (AJ w [] [(g11_, objC r.cells 34), (g8_, objC x.cells 41), (g4_, objC (claimCs (k : Int) x (.slice ap pp.length cp)) 79)] (fun _ _ => [rowA 34 ao3 cap3 pp, rowA 34 ao2 cap2 p, rowA 34 (some ad1) cap1 l]) 12 13 18 82 (twoCs 0 zP zP) (twoCs 0 zP zP)) (by kernel_rfl) (by kernel_rfl) rfl (HH.out.drew) ?_ ?_
                      · refine eachD_cons ?_ (eachD_cons ?_ (eachD_cons ?_ (eachD_cons ?_ (eachD_cons ?_ (eachD_cons ?_ (eachD_cons ?_ (eachD_cons ?_ (eachD_cons ?_ (eachD_cons ?_ (eachD_cons ?_ (eachD_cons ?_ (eachD_cons ?_ (eachD_cons ?_ (eachD_cons ?_ (eachD_nil)))))))))))))))
                        · intro li_ a_ w1 hc hi hJ hF hS
                          have e7 : a_.eval (.tmp 7) = (.int .i64 (k : Int)) := (hF.2.2 7 (notDst_of (by kernel_rfl))).trans rfl
                          refine wantD (by rfl) ?_
                          exact opF_val rfl (ex_move rfl w1) hJ e7
                        · intro li_ a_ w1 hc hi hJ hF hS
                          have e10 : a_.eval (.tmp 10) = (.slice (some ad1) l.length cap1) := (hF.2.2 10 (notDst_of (by kernel_rfl))).trans rfl
                          refine wantD (by rfl) ?_
                          exact opF_val rfl (ex_move rfl w1) hJ e10
                        · intro li_ a_ w1 hc hi hJ hF hS
                          have e7 : a_.eval (.tmp 7) = (.int .i64 (k : Int)) := (hF.2.2 7 (notDst_of (by kernel_rfl))).trans rfl
                          refine wantD (by rfl) ?_
                          exact opF_val rfl (ex_move rfl w1) hJ e7
                        · intro li_ a_ w1 hc hi hJ hF hS
                          have l1 : li_ 1 = true := (hS ⟨1, .data⟩ (by simp) rfl).1
                          have l2 : li_ 2 = true := (hS ⟨2, .data⟩ (by simp) rfl).1
                          have e101 : a_.eval (.tmp 101) = (.slice (some ad1) l.length cap1) := (hS ⟨1, .data⟩ (by simp) rfl).2 _ rfl
                          have e102 : a_.eval (.tmp 102) = (.int .i64 (k : Int)) := (hS ⟨2, .data⟩ (by simp) rfl).2 _ rfl
                          refine wantD (by rfl) ?_
                          exact opF_val rfl (ex_index kE46 (j := k) e101 e102 rfl HKL.out w1) hJ rfl
                        · intro li_ a_ w1 hc hi hJ hF hS
                          have l3 : li_ 3 = true := (hS ⟨3, .data⟩ (by simp) rfl).1
                          have e103 : a_.eval (.tmp 103) = (.pointer (some (ad1.add (k * 16)))) := (hS ⟨3, .data⟩ (by simp) rfl).2 _ rfl
                          refine wantD (by rfl) ?_
                          exact opF_val rfl (ex_load_agg (t := 34) (sz := 16) e103 Try.underlying34 rfl kS34 (Arr.len y) (get_as (show Arrs w1 (.slice (some ad1) l.length cap1) l from Holds.sl2 hJ) HKL.out (HY.out _))) hJ rfl
                        · intro li_ a_ w1 hc hi hJ hF hS
                          have e13 : a_.eval (.tmp 13) = (.slice ao2 p.length cap2) := (hF.2.2 13 (notDst_of (by kernel_rfl))).trans rfl
                          refine wantD (by rfl) ?_
                          exact opF_val rfl (ex_move rfl w1) hJ e13
                        · intro li_ a_ w1 hc hi hJ hF hS
                          have e8 : a_.eval (.tmp 8) = (.pointer (some ⟨g8_, 0, none⟩)) := (hF.2.2 8 (notDst_of (by kernel_rfl))).trans rfl
                          refine wantD (by rfl) ?_
                          exact opF_val rfl (ex_loadPart (cs := x.cells) (e := 41) kA41 hJ e8 (Own.opt (.there .here)) (by rw [List.drop_zero]; exact List.take_of_length_le (by rw [Arr.len]; exact Nat.le_refl _)) (Arr.len _)) hJ rfl
                        · intro li_ a_ w1 hc hi hJ hF hS
                          have e15 : a_.eval (.tmp 15) = (.slice ao3 pp.length cap3) := (hF.2.2 15 (notDst_of (by kernel_rfl))).trans rfl
                          refine wantD (by rfl) ?_
                          exact opF_val rfl (ex_move rfl w1) hJ e15
                        · intro li_ a_ w1 hc hi hJ hF hS
                          have l0 : li_ 0 = true := (hS ⟨0, .data⟩ (by simp) rfl).1
                          have l4 : li_ 4 = true := (hS ⟨4, .data⟩ (by simp) rfl).1
                          have l5 : li_ 5 = true := (hS ⟨5, .data⟩ (by simp) rfl).1
                          have l6 : li_ 6 = true := (hS ⟨6, .data⟩ (by simp) rfl).1
                          have l7 : li_ 7 = true := (hS ⟨7, .data⟩ (by simp) rfl).1
                          have e100 : a_.eval (.tmp 100) = (.int .i64 (k : Int)) := (hS ⟨0, .data⟩ (by simp) rfl).2 _ rfl
                          have e104 : a_.eval (.tmp 104) = y.val := (hS ⟨4, .data⟩ (by simp) rfl).2 _ rfl
                          have e105 : a_.eval (.tmp 105) = (.slice ao2 p.length cap2) := (hS ⟨5, .data⟩ (by simp) rfl).2 _ rfl
                          have e106 : a_.eval (.tmp 106) = x.val := (hS ⟨6, .data⟩ (by simp) rfl).2 _ rfl
                          have e107 : a_.eval (.tmp 107) = (.slice ao3 pp.length cap3) := (hS ⟨7, .data⟩ (by simp) rfl).2 _ rfl
                          refine wantD (by rfl) ?_
                          exact opF_call (args := #[.int .i64 (k : Int), y.val, .slice ao2 p.length cap2, x.val, .slice ao3 pp.length cap3]) kB48 (by show #[a_.eval (.tmp 100), a_.eval (.tmp 104), a_.eval (.tmp 105), a_.eval (.tmp 106), a_.eval (.tmp 107)] = _; rw [e100, e104, e105, e106, e107]) ((coll_any w1 _ _ (k : Int) y x p pp (show Arrs w1 (.slice ao2 p.length cap2) p from Holds.sl1 hJ) (show Arrs w1 (.slice ao3 pp.length cap3) pp from Holds.sl0 hJ) HPL.out HQL10.out).mono fun e w' ⟨he, hb⟩ => ⟨_, he, AJ.grow hJ hb, by rw [HO.out]; exact HTUP.out⟩)
                        · intro li_ a_ w1 hc hi hJ hF hS
                          have l8 : li_ 8 = true := (hS ⟨8, .data⟩ (by simp) rfl).1
                          have e108 : a_.eval (.tmp 108) = (.tuple #[.agg (twoCs 0 zP zP).toArray, .bool false]) := (hS ⟨8, .data⟩ (by simp) rfl).2 _ rfl
                          refine wantD (by rfl) ?_
                          exact opF_val rfl (ex_move rfl w1) hJ e108
                        · intro li_ a_ w1 hc hi hJ hF hS
                          have l9 : li_ 9 = true := (hS ⟨9, .data⟩ (by simp) rfl).1
                          have e99 : a_.eval (.tmp 99) = (.tuple #[.agg (twoCs 0 zP zP).toArray, .bool false]) := (hS ⟨9, .data⟩ (by simp) rfl).2 _ rfl
                          refine wantD (by rfl) ?_
                          exact opF_val rfl (ex_extract e99 rfl w1) hJ rfl
                        · intro li_ a_ w1 hc hi hJ hF hS
                          have l9 : li_ 9 = true := (hS ⟨9, .data⟩ (by simp) rfl).1
                          have e99 : a_.eval (.tmp 99) = (.tuple #[.agg (twoCs 0 zP zP).toArray, .bool false]) := (hS ⟨9, .data⟩ (by simp) rfl).2 _ rfl
                          refine wantD (by rfl) ?_
                          exact opF_val rfl (ex_extract e99 rfl w1) hJ rfl
                        · intro li_ a_ w1 hc hi hJ hF hS
                          refine wantD (by rfl) ?_
                          exact aj_alloc kZ82b hJ hi (hc.off (j := 13) (by kernel_rfl) hi) (by decide) (fun _ => rfl)
                        · intro li_ a_ w1 hc hi hJ hF hS
                          have l12 : li_ 12 = true := (hS ⟨12, .data⟩ (by simp) rfl).1
                          have l10 : li_ 10 = true := (hS ⟨10, .data⟩ (by simp) rfl).1
                          have l8 : li_ 8 = true := (hS ⟨8, .chain⟩ (by simp) rfl).1
                          have l0 : li_ 0 = true := (hS ⟨0, .phase⟩ (by simp) rfl).1
                          have l1 : li_ 1 = true := (hS ⟨1, .phase⟩ (by simp) rfl).1
                          have l2 : li_ 2 = true := (hS ⟨2, .phase⟩ (by simp) rfl).1
                          have l3 : li_ 3 = true := (hS ⟨3, .phase⟩ (by simp) rfl).1
                          have l4 : li_ 4 = true := (hS ⟨4, .phase⟩ (by simp) rfl).1
                          have l5 : li_ 5 = true := (hS ⟨5, .phase⟩ (by simp) rfl).1
                          have l6 : li_ 6 = true := (hS ⟨6, .phase⟩ (by simp) rfl).1
                          have l7 : li_ 7 = true := (hS ⟨7, .phase⟩ (by simp) rfl).1
                          have l9 : li_ 9 = true := (hS ⟨9, .phase⟩ (by simp) rfl).1
                          have e18 : (isPtr) (a_.eval (.tmp 18)) := (hS ⟨12, .data⟩ (by simp) rfl).2 _ rfl
                          have e109 : a_.eval (.tmp 109) = (.agg (twoCs 0 zP zP).toArray) := (hS ⟨10, .data⟩ (by simp) rfl).2 _ rfl
                          refine wantD (by rfl) ?_
                          exact aj_store kS82 (two_len _ _ _) (two_len _ _ _) (two_one _ _ _) hJ l12 hi (by decide) e18 e109 rfl
                        · intro li_ a_ w1 hc hi hJ hF hS
                          have l11 : li_ 11 = true := (hS ⟨11, .data⟩ (by simp) rfl).1
                          have l13 : li_ 13 = true := (hS ⟨13, .chain⟩ (by simp) rfl).1
                          have l0 : li_ 0 = true := (hS ⟨0, .phase⟩ (by simp) rfl).1
                          have l1 : li_ 1 = true := (hS ⟨1, .phase⟩ (by simp) rfl).1
                          have l2 : li_ 2 = true := (hS ⟨2, .phase⟩ (by simp) rfl).1
                          have l3 : li_ 3 = true := (hS ⟨3, .phase⟩ (by simp) rfl).1
                          have l4 : li_ 4 = true := (hS ⟨4, .phase⟩ (by simp) rfl).1
                          have l5 : li_ 5 = true := (hS ⟨5, .phase⟩ (by simp) rfl).1
                          have l6 : li_ 6 = true := (hS ⟨6, .phase⟩ (by simp) rfl).1
                          have l7 : li_ 7 = true := (hS ⟨7, .phase⟩ (by simp) rfl).1
                          have l8 : li_ 8 = true := (hS ⟨8, .phase⟩ (by simp) rfl).1
                          have l9 : li_ 9 = true := (hS ⟨9, .phase⟩ (by simp) rfl).1
                          have l10 : li_ 10 = true := (hS ⟨10, .phase⟩ (by simp) rfl).1
                          have l12 : li_ 12 = true := (hS ⟨12, .phase⟩ (by simp) rfl).1
                          have e110 : a_.eval (.tmp 110) = (.bool false) := (hS ⟨11, .data⟩ (by simp) rfl).2 _ rfl
                          refine wantD (by rfl) ?_
                          exact opF_val rfl (ex_assign rfl w1) hJ e110
                      intro v0_ h0_ v1_ h1_ v2_ h2_ v3_ h3_ v4_ h4_ v5_ h5_ v6_ h6_ v7_ h7_ v8_ h8_ v9_ h9_ v10_ h10_ v11_ h11_ v12_ h12_ v13_ h13_ v14_ h14_
                      intro wq hq_
                      have q_ : v0_ = (.int .i64 (k : Int)) := h0_; clear h0_; subst q_
                      have q_ : v1_ = (.slice (some ad1) l.length cap1) := h1_; clear h1_; subst q_
                      have q_ : v2_ = (.int .i64 (k : Int)) := h2_; clear h2_; subst q_
                      have q_ : v3_ = (.pointer (some (ad1.add (k * 16)))) := h3_; clear h3_; subst q_
                      have q_ : v4_ = y.val := h4_; clear h4_; subst q_
                      have q_ : v5_ = (.slice ao2 p.length cap2) := h5_; clear h5_; subst q_
                      have q_ : v6_ = x.val := h6_; clear h6_; subst q_
                      have q_ : v7_ = (.slice ao3 pp.length cap3) := h7_; clear h7_; subst q_
                      have q_ : v8_ = (.tuple #[.agg (twoCs 0 zP zP).toArray, .bool false]) := h8_; clear h8_; subst q_
                      have q_ : v9_ = (.tuple #[.agg (twoCs 0 zP zP).toArray, .bool false]) := h9_; clear h9_; subst q_
                      have q_ : v10_ = (.agg (twoCs 0 zP zP).toArray) := h10_; clear h10_; subst q_
                      have q_ : v11_ = (.bool false) := h11_; clear h11_; subst q_
                      obtain ⟨g18_, rfl⟩ := h12_
                      clear h13_
                      have q_ : v14_ = (.bool false) := h14_; clear h14_; subst q_
                      have HQ := hid hq_; clear hq_
                      simp only [putsD, Act.put, List.setIfInBounds_toArray, List.set_cons_succ, List.set_cons_zero]
                      have hq2_ : Holds w [] [(g18_, objC (twoCs 0 zP zP) 82), (g11_, objC r.cells 34), (g8_, objC x.cells 41), (g4_, objC (claimCs (k : Int) x (.slice ap pp.length cp)) 79)] [rowA 34 ao3 cap3 pp, rowA 34 ao2 cap2 p, rowA 34 (some ad1) cap1 l] wq := HQ.out
                      clear HH HQ
                      have HH := hid hq2_
                      clear hq2_
                      go_wp2_with (first
                        | ((first
                            | ((with_reducible apply wpL_skip); rfl; skip)
                            | ((with_reducible apply wpList_build (parts := #[]) (v := .agg (twoCs 0 zP zP).toArray)); (exact BZ82); rfl)
                            | ((with_reducible apply wpL_eq82); rfl; rfl; rfl)
                            | ((with_reducible apply wpL_nilCheck); rfl; rfl)
                            | ((with_reducible apply wpL_fieldAddr); (first | exact kF79_0 | exact kF79_1 | exact kF79_2 | exact kF82_0 | exact kF82_1 | exact kF82_2); rfl; rfl)
                            | ((with_reducible apply wpL_load1 (t := 3) kO3 HH.out); rfl; (repeat (first | exact .here | refine .there ?_)); rfl; rfl)
                            | ((with_reducible apply wpL_load1 (t := 30) kO30 HH.out); rfl; (repeat (first | exact .here | refine .there ?_)); rfl; rfl)
                            | ((with_reducible apply wpL_loadArr (t := 34) kA34 HH.out); rfl; (repeat (first | exact .here | refine .there ?_)); rfl)
                            | ((with_reducible apply wpL_loadArr (t := 41) kA41 HH.out); rfl; (repeat (first | exact .here | refine .there ?_)); rfl)
                            | ((with_reducible apply wpL_loadC (t := 80) kA80 HH.out); rfl; (repeat (first | exact .here | refine .there ?_)); (first | rfl | exact Arr.len _ | (simp; done)); rfl)
                            | ((with_reducible apply wpL_loadC (t := 82) kA82 HH.out); rfl; (repeat (first | exact .here | refine .there ?_)); (first | rfl | exact Arr.len _ | (simp; done)); rfl)
                            | ((with_reducible apply wpL_len (t := 30) Try.underlying30); rfl; rfl)
                            | ((with_reducible apply wpL_len (t := 46) Try.underlying46); rfl; rfl)
                            | ((with_reducible apply wpL_boxC (dst := some 4)); rfl; (exact HH.out); rfl; (intro g4_ w_ hq_; (try simp only [List.set_cons_zero, List.set_cons_succ] at hq_); clear HH; have HH := hid hq_; clear hq_))
                            | ((with_reducible apply wpL_allocC (dst := some 8) kZ41 HH.out); rfl; (intro g8_ w_ hq_; (try simp only [List.set_cons_zero, List.set_cons_succ] at hq_); clear HH; have HH := hid hq_; clear hq_))
                            | ((with_reducible apply wpL_allocC (dst := some 11) kZ34 HH.out); rfl; (intro g11_ w_ hq_; (try simp only [List.set_cons_zero, List.set_cons_succ] at hq_); clear HH; have HH := hid hq_; clear hq_))
                            | ((with_reducible apply wpL_allocC (dst := some 18) kZ82 HH.out); rfl; (intro g18_ w_ hq_; (try simp only [List.set_cons_zero, List.set_cons_succ] at hq_); clear HH; have HH := hid hq_; clear hq_))
                            | ((with_reducible apply wpL_storeArr (t := 34) kS34 HH.out); rfl; rfl; (repeat (first | exact .here | refine .there ?_)); (first | rfl | exact Arr.len _ | (simp; done)); rfl; (intro w_ hq_; (try simp only [List.set_cons_zero, List.set_cons_succ] at hq_); clear HH; have HH := hid hq_; clear hq_))
                            | ((with_reducible apply wpL_storeArr (t := 41) kS41 HH.out); rfl; rfl; (repeat (first | exact .here | refine .there ?_)); (first | rfl | exact Arr.len _ | (simp; done)); rfl; (intro w_ hq_; (try simp only [List.set_cons_zero, List.set_cons_succ] at hq_); clear HH; have HH := hid hq_; clear hq_))
                            | ((with_reducible apply wpL_storeC (t := 82)); rfl; rfl; (exact kS82); (exact HH.out); (repeat (first | exact .here | refine .there ?_)); (first | rfl | exact Arr.len _ | (simp; done)); (first | rfl | (intro u_ hu_; simp only [List.mem_cons, List.not_mem_nil, or_false] at hu_; rcases hu_ with rfl | hu_; rfl) | exact byt_cell1 _ | exact cells_one _ | exact wrd_one _ | exact flat_cell1 _); (first | rfl | exact Arr.len _ | (simp; done)); rfl; (intro w_ hq_; (try simp only [List.set_cons_zero, List.set_cons_succ] at hq_); clear HH; have HH := hid hq_; clear hq_))
                            | ((with_reducible apply wpL_move); rfl; rfl)
                            | ((with_reducible apply wpL_assign); rfl; rfl)
                            | ((with_reducible apply wpL_pick); rfl; rfl; rfl)
                            | ((with_reducible apply wpL_not); rfl; rfl)
                            | ((with_reducible apply wpL_cmp (b := true)); rfl; rfl; rfl; (first | rfl | assumption | (simp only [cmpB, decide_eq_true_eq, decide_eq_false_iff_not, beq_iff_eq, bne_iff_ne, ne_eq, beq_eq_false_iff_ne, bne_eq_false_iff_eq, gt_iff_lt, ge_iff_le]; omega) | (simp; omega)); rfl)
                            | ((with_reducible apply wpL_cmp (b := false)); rfl; rfl; rfl; (first | rfl | assumption | (simp only [cmpB, decide_eq_true_eq, decide_eq_false_iff_not, beq_iff_eq, bne_iff_ne, ne_eq, beq_eq_false_iff_ne, bne_eq_false_iff_eq, gt_iff_lt, ge_iff_le]; omega) | (simp; omega)); rfl)
                            | ((with_reducible apply wpL_cmp); rfl; rfl; rfl; rfl; rfl)
                            | ((with_reducible apply wpL_arith); rfl; rfl; rfl; (exact IntWalk.i64_in _ (by (try simp only [arithI]); omega)); rfl)); (try simp only [arithI, Act.put, Act.eval, List.setIfInBounds_toArray, List.set_cons_succ, List.set_cons_zero, Array.getD_eq_getD_getElem?, List.getElem?_toArray, List.getElem?_cons_succ, List.getElem?_cons_zero, Option.getD_some])))
                      go_ret
                      exact RetB.mk rfl HH.out.below
                    | true =>
                      obtain ⟨lv, A0, A1, B0, B1, ho, hlv, hab, hjn⟩ := HFG.out.2 (fun h => by have := HCE.out.2 h; cases this)
                      obtain ⟨A, hA⟩ : ∃ A, jn A0 A1 = A := ⟨_, rfl⟩
                      obtain ⟨B, hB⟩ : ∃ B, jn B0 B1 = B := ⟨_, rfl⟩
                      obtain ⟨d, hd⟩ : ∃ d, joinN lv A0 A1 = d := ⟨_, rfl⟩
                      rw [hA, hB] at ho hab
                      have HO := hid (HCV.out.trans ho)
                      have HA2 := hid (show ((twoCs lv A B).drop (0 + 1)).take 32 = (jn A0 A1).cells by rw [two_a, hA])
                      have HB2 := hid (show ((twoCs lv A B).drop (0 + 33)).take 32 = (jn B0 B1).cells by rw [two_b, hB])
                      have HAB := hid (show (!(A == B)) = true by rw [Bool.not_eq_true', beq_eq_false_iff_ne]; exact hab)
                      have HDA := hid hd
                      have HDB := hid (hjn.symm.trans hd)
                      have HTUP := hid (show (Value.tuple #[.agg (twoCs lv A B).toArray, .bool (decide (0 < lv))]) = .tuple #[.agg (twoCs lv A B).toArray, .bool true] by rw [decide_eq_true hlv])
                      clear ho hab hA hB hd hjn hlv
                      go_wp2_with (first
                        | ((first
                            | ((with_reducible apply wpL_skip); rfl; skip)
                            | ((with_reducible apply wpL_nilCheck); rfl; rfl)
                            | ((with_reducible apply wpL_fieldAddr); (first | exact kF79_0 | exact kF79_1 | exact kF79_2 | exact kF82_0 | exact kF82_1 | exact kF82_2); rfl; rfl)
                            | ((with_reducible apply wpL_load1 (t := 3) kO3 HH.out); rfl; (repeat (first | exact .here | refine .there ?_)); rfl; rfl)
                            | ((with_reducible apply wpL_load1 (t := 30) kO30 HH.out); rfl; (repeat (first | exact .here | refine .there ?_)); rfl; rfl)
                            | ((with_reducible apply wpL_loadArr (t := 34) kA34 HH.out); rfl; (repeat (first | exact .here | refine .there ?_)); rfl)
                            | ((with_reducible apply wpL_loadArr (t := 41) kA41 HH.out); rfl; (repeat (first | exact .here | refine .there ?_)); rfl)
                            | ((with_reducible apply wpL_loadC (t := 80) kA80 HH.out); rfl; (repeat (first | exact .here | refine .there ?_)); (first | rfl | exact Arr.len _ | (simp; done)); rfl)
                            | ((with_reducible apply wpL_loadC (t := 82) kA82 HH.out); rfl; (repeat (first | exact .here | refine .there ?_)); (first | rfl | exact Arr.len _ | (simp; done)); rfl)
                            | ((with_reducible apply wpL_len (t := 30) Try.underlying30); rfl; rfl)
                            | ((with_reducible apply wpL_len (t := 46) Try.underlying46); rfl; rfl)
                            | ((with_reducible apply wpL_boxC (dst := some 4)); rfl; (exact HH.out); rfl; (intro g4_ w_ hq_; (try simp only [List.set_cons_zero, List.set_cons_succ] at hq_); clear HH; have HH := hid hq_; clear hq_))
                            | ((with_reducible apply wpL_allocC (dst := some 8) kZ41 HH.out); rfl; (intro g8_ w_ hq_; (try simp only [List.set_cons_zero, List.set_cons_succ] at hq_); clear HH; have HH := hid hq_; clear hq_))
                            | ((with_reducible apply wpL_allocC (dst := some 11) kZ34 HH.out); rfl; (intro g11_ w_ hq_; (try simp only [List.set_cons_zero, List.set_cons_succ] at hq_); clear HH; have HH := hid hq_; clear hq_))
                            | ((with_reducible apply wpL_allocC (dst := some 18) kZ82 HH.out); rfl; (intro g18_ w_ hq_; (try simp only [List.set_cons_zero, List.set_cons_succ] at hq_); clear HH; have HH := hid hq_; clear hq_))
                            | ((with_reducible apply wpL_storeArr (t := 34) kS34 HH.out); rfl; rfl; (repeat (first | exact .here | refine .there ?_)); (first | rfl | exact Arr.len _ | (simp; done)); rfl; (intro w_ hq_; (try simp only [List.set_cons_zero, List.set_cons_succ] at hq_); clear HH; have HH := hid hq_; clear hq_))
                            | ((with_reducible apply wpL_storeArr (t := 41) kS41 HH.out); rfl; rfl; (repeat (first | exact .here | refine .there ?_)); (first | rfl | exact Arr.len _ | (simp; done)); rfl; (intro w_ hq_; (try simp only [List.set_cons_zero, List.set_cons_succ] at hq_); clear HH; have HH := hid hq_; clear hq_))
                            | ((with_reducible apply wpL_storeC (t := 82)); rfl; rfl; (exact kS82); (exact HH.out); (repeat (first | exact .here | refine .there ?_)); (first | rfl | exact Arr.len _ | (simp; done)); (first | rfl | (intro u_ hu_; simp only [List.mem_cons, List.not_mem_nil, or_false] at hu_; rcases hu_ with rfl | hu_; rfl) | exact byt_cell1 _ | exact cells_one _ | exact wrd_one _ | exact flat_cell1 _); (first | rfl | exact Arr.len _ | (simp; done)); rfl; (intro w_ hq_; (try simp only [List.set_cons_zero, List.set_cons_succ] at hq_); clear HH; have HH := hid hq_; clear hq_))
                            | ((with_reducible apply wpL_move); rfl; rfl)
                            | ((with_reducible apply wpL_assign); rfl; rfl)
                            | ((with_reducible apply wpL_pick); rfl; rfl; rfl)
                            | ((with_reducible apply wpL_not); rfl; rfl)
                            | ((with_reducible apply wpL_cmp (b := true)); rfl; rfl; rfl; (first | rfl | assumption | (simp only [cmpB, decide_eq_true_eq, decide_eq_false_iff_not, beq_iff_eq, bne_iff_ne, ne_eq, beq_eq_false_iff_ne, bne_eq_false_iff_eq, gt_iff_lt, ge_iff_le]; omega) | (simp; omega)); rfl)
                            | ((with_reducible apply wpL_cmp (b := false)); rfl; rfl; rfl; (first | rfl | assumption | (simp only [cmpB, decide_eq_true_eq, decide_eq_false_iff_not, beq_iff_eq, bne_iff_ne, ne_eq, beq_eq_false_iff_ne, bne_eq_false_iff_eq, gt_iff_lt, ge_iff_le]; omega) | (simp; omega)); rfl)
                            | ((with_reducible apply wpL_cmp); rfl; rfl; rfl; rfl; rfl)
                            | ((with_reducible apply wpL_arith); rfl; rfl; rfl; (exact IntWalk.i64_in _ (by (try simp only [arithI]); omega)); rfl)); (try simp only [arithI, Act.put, Act.eval, List.setIfInBounds_toArray, List.set_cons_succ, List.set_cons_zero, Array.getD_eq_getD_getElem?, List.getElem?_toArray, List.getElem?_cons_succ, List.getElem?_cons_zero, Option.getD_some])))
                      refine wp_region_F [(fun u_ => u_ = (.int .i64 (k : Int))), (fun u_ => u_ = (.slice (some ad1) l.length cap1)), (fun u_ => u_ = (.int .i64 (k : Int))), (fun u_ => u_ = (.pointer (some (ad1.add (k * 16))))), (fun u_ => u_ = y.val), (fun u_ => u_ = (.slice ao2 p.length cap2)), (fun u_ => u_ = x.val), (fun u_ => u_ = (.slice ao3 pp.length cap3)), (fun u_ => u_ = (.tuple #[.agg (twoCs lv A B).toArray, .bool true])), (fun u_ => u_ = (.tuple #[.agg (twoCs lv A B).toArray, .bool true])), (fun u_ => u_ = (.agg (twoCs lv A B).toArray)), (fun u_ => u_ = (.bool true)), (isPtr), (fun _ => True), (fun u_ => u_ = (.bool true))] (AJ w [] [(g11_, objC r.cells 34), (g8_, objC x.cells 41), (g4_, objC (claimCs (k : Int) x (.slice ap pp.length cp)) 79)] (fun _ _ => [rowA 34 ao3 cap3 pp, rowA 34 ao2 cap2 p, rowA 34 (some ad1) cap1 l]) 12 13 18 82 (twoCs 0 zP zP) (twoCs lv A B)) (by kernel_rfl) (by kernel_rfl) rfl (HH.out.drew) ?_ ?_
                      · refine eachD_cons ?_ (eachD_cons ?_ (eachD_cons ?_ (eachD_cons ?_ (eachD_cons ?_ (eachD_cons ?_ (eachD_cons ?_ (eachD_cons ?_ (eachD_cons ?_ (eachD_cons ?_ (eachD_cons ?_ (eachD_cons ?_ (eachD_cons ?_ (eachD_cons ?_ (eachD_cons ?_ (eachD_nil)))))))))))))))
                        · intro li_ a_ w1 hc hi hJ hF hS
                          have e7 : a_.eval (.tmp 7) = (.int .i64 (k : Int)) := (hF.2.2 7 (notDst_of (by kernel_rfl))).trans rfl
                          refine wantD (by rfl) ?_
                          exact opF_val rfl (ex_move rfl w1) hJ e7
                        · intro li_ a_ w1 hc hi hJ hF hS
                          have e10 : a_.eval (.tmp 10) = (.slice (some ad1) l.length cap1) := (hF.2.2 10 (notDst_of (by kernel_rfl))).trans rfl
                          refine wantD (by rfl) ?_
                          exact opF_val rfl (ex_move rfl w1) hJ e10
                        · intro li_ a_ w1 hc hi hJ hF hS
                          have e7 : a_.eval (.tmp 7) = (.int .i64 (k : Int)) := (hF.2.2 7 (notDst_of (by kernel_rfl))).trans rfl
                          refine wantD (by rfl) ?_
                          exact opF_val rfl (ex_move rfl w1) hJ e7
                        · intro li_ a_ w1 hc hi hJ hF hS
                          have l1 : li_ 1 = true := (hS ⟨1, .data⟩ (by simp) rfl).1
                          have l2 : li_ 2 = true := (hS ⟨2, .data⟩ (by simp) rfl).1
                          have e101 : a_.eval (.tmp 101) = (.slice (some ad1) l.length cap1) := (hS ⟨1, .data⟩ (by simp) rfl).2 _ rfl
                          have e102 : a_.eval (.tmp 102) = (.int .i64 (k : Int)) := (hS ⟨2, .data⟩ (by simp) rfl).2 _ rfl
                          refine wantD (by rfl) ?_
                          exact opF_val rfl (ex_index kE46 (j := k) e101 e102 rfl HKL.out w1) hJ rfl
                        · intro li_ a_ w1 hc hi hJ hF hS
                          have l3 : li_ 3 = true := (hS ⟨3, .data⟩ (by simp) rfl).1
                          have e103 : a_.eval (.tmp 103) = (.pointer (some (ad1.add (k * 16)))) := (hS ⟨3, .data⟩ (by simp) rfl).2 _ rfl
                          refine wantD (by rfl) ?_
                          exact opF_val rfl (ex_load_agg (t := 34) (sz := 16) e103 Try.underlying34 rfl kS34 (Arr.len y) (get_as (show Arrs w1 (.slice (some ad1) l.length cap1) l from Holds.sl2 hJ) HKL.out (HY.out _))) hJ rfl
                        · intro li_ a_ w1 hc hi hJ hF hS
                          have e13 : a_.eval (.tmp 13) = (.slice ao2 p.length cap2) := (hF.2.2 13 (notDst_of (by kernel_rfl))).trans rfl
                          refine wantD (by rfl) ?_
                          exact opF_val rfl (ex_move rfl w1) hJ e13
                        · intro li_ a_ w1 hc hi hJ hF hS
                          have e8 : a_.eval (.tmp 8) = (.pointer (some ⟨g8_, 0, none⟩)) := (hF.2.2 8 (notDst_of (by kernel_rfl))).trans rfl
                          refine wantD (by rfl) ?_
                          exact opF_val rfl (ex_loadPart (cs := x.cells) (e := 41) kA41 hJ e8 (Own.opt (.there .here)) (by rw [List.drop_zero]; exact List.take_of_length_le (by rw [Arr.len]; exact Nat.le_refl _)) (Arr.len _)) hJ rfl
                        · intro li_ a_ w1 hc hi hJ hF hS
                          have e15 : a_.eval (.tmp 15) = (.slice ao3 pp.length cap3) := (hF.2.2 15 (notDst_of (by kernel_rfl))).trans rfl
                          refine wantD (by rfl) ?_
                          exact opF_val rfl (ex_move rfl w1) hJ e15
                        · intro li_ a_ w1 hc hi hJ hF hS
                          have l0 : li_ 0 = true := (hS ⟨0, .data⟩ (by simp) rfl).1
                          have l4 : li_ 4 = true := (hS ⟨4, .data⟩ (by simp) rfl).1
                          have l5 : li_ 5 = true := (hS ⟨5, .data⟩ (by simp) rfl).1
                          have l6 : li_ 6 = true := (hS ⟨6, .data⟩ (by simp) rfl).1
                          have l7 : li_ 7 = true := (hS ⟨7, .data⟩ (by simp) rfl).1
                          have e100 : a_.eval (.tmp 100) = (.int .i64 (k : Int)) := (hS ⟨0, .data⟩ (by simp) rfl).2 _ rfl
                          have e104 : a_.eval (.tmp 104) = y.val := (hS ⟨4, .data⟩ (by simp) rfl).2 _ rfl
                          have e105 : a_.eval (.tmp 105) = (.slice ao2 p.length cap2) := (hS ⟨5, .data⟩ (by simp) rfl).2 _ rfl
                          have e106 : a_.eval (.tmp 106) = x.val := (hS ⟨6, .data⟩ (by simp) rfl).2 _ rfl
                          have e107 : a_.eval (.tmp 107) = (.slice ao3 pp.length cap3) := (hS ⟨7, .data⟩ (by simp) rfl).2 _ rfl
                          refine wantD (by rfl) ?_
                          exact opF_call (args := #[.int .i64 (k : Int), y.val, .slice ao2 p.length cap2, x.val, .slice ao3 pp.length cap3]) kB48 (by show #[a_.eval (.tmp 100), a_.eval (.tmp 104), a_.eval (.tmp 105), a_.eval (.tmp 106), a_.eval (.tmp 107)] = _; rw [e100, e104, e105, e106, e107]) ((coll_any w1 _ _ (k : Int) y x p pp (show Arrs w1 (.slice ao2 p.length cap2) p from Holds.sl1 hJ) (show Arrs w1 (.slice ao3 pp.length cap3) pp from Holds.sl0 hJ) HPL.out HQL10.out).mono fun e w' ⟨he, hb⟩ => ⟨_, he, AJ.grow hJ hb, by rw [HO.out]; exact HTUP.out⟩)
                        · intro li_ a_ w1 hc hi hJ hF hS
                          have l8 : li_ 8 = true := (hS ⟨8, .data⟩ (by simp) rfl).1
                          have e108 : a_.eval (.tmp 108) = (.tuple #[.agg (twoCs lv A B).toArray, .bool true]) := (hS ⟨8, .data⟩ (by simp) rfl).2 _ rfl
                          refine wantD (by rfl) ?_
                          exact opF_val rfl (ex_move rfl w1) hJ e108
                        · intro li_ a_ w1 hc hi hJ hF hS
                          have l9 : li_ 9 = true := (hS ⟨9, .data⟩ (by simp) rfl).1
                          have e99 : a_.eval (.tmp 99) = (.tuple #[.agg (twoCs lv A B).toArray, .bool true]) := (hS ⟨9, .data⟩ (by simp) rfl).2 _ rfl
                          refine wantD (by rfl) ?_
                          exact opF_val rfl (ex_extract e99 rfl w1) hJ rfl
                        · intro li_ a_ w1 hc hi hJ hF hS
                          have l9 : li_ 9 = true := (hS ⟨9, .data⟩ (by simp) rfl).1
                          have e99 : a_.eval (.tmp 99) = (.tuple #[.agg (twoCs lv A B).toArray, .bool true]) := (hS ⟨9, .data⟩ (by simp) rfl).2 _ rfl
                          refine wantD (by rfl) ?_
                          exact opF_val rfl (ex_extract e99 rfl w1) hJ rfl
                        · intro li_ a_ w1 hc hi hJ hF hS
                          refine wantD (by rfl) ?_
                          exact aj_alloc kZ82b hJ hi (hc.off (j := 13) (by kernel_rfl) hi) (by decide) (fun _ => rfl)
                        · intro li_ a_ w1 hc hi hJ hF hS
                          have l12 : li_ 12 = true := (hS ⟨12, .data⟩ (by simp) rfl).1
                          have l10 : li_ 10 = true := (hS ⟨10, .data⟩ (by simp) rfl).1
                          have l8 : li_ 8 = true := (hS ⟨8, .chain⟩ (by simp) rfl).1
                          have l0 : li_ 0 = true := (hS ⟨0, .phase⟩ (by simp) rfl).1
                          have l1 : li_ 1 = true := (hS ⟨1, .phase⟩ (by simp) rfl).1
                          have l2 : li_ 2 = true := (hS ⟨2, .phase⟩ (by simp) rfl).1
                          have l3 : li_ 3 = true := (hS ⟨3, .phase⟩ (by simp) rfl).1
                          have l4 : li_ 4 = true := (hS ⟨4, .phase⟩ (by simp) rfl).1
                          have l5 : li_ 5 = true := (hS ⟨5, .phase⟩ (by simp) rfl).1
                          have l6 : li_ 6 = true := (hS ⟨6, .phase⟩ (by simp) rfl).1
                          have l7 : li_ 7 = true := (hS ⟨7, .phase⟩ (by simp) rfl).1
                          have l9 : li_ 9 = true := (hS ⟨9, .phase⟩ (by simp) rfl).1
                          have e18 : (isPtr) (a_.eval (.tmp 18)) := (hS ⟨12, .data⟩ (by simp) rfl).2 _ rfl
                          have e109 : a_.eval (.tmp 109) = (.agg (twoCs lv A B).toArray) := (hS ⟨10, .data⟩ (by simp) rfl).2 _ rfl
                          refine wantD (by rfl) ?_
                          exact aj_store kS82 (two_len _ _ _) (two_len _ _ _) (two_one _ _ _) hJ l12 hi (by decide) e18 e109 rfl
                        · intro li_ a_ w1 hc hi hJ hF hS
                          have l11 : li_ 11 = true := (hS ⟨11, .data⟩ (by simp) rfl).1
                          have l13 : li_ 13 = true := (hS ⟨13, .chain⟩ (by simp) rfl).1
                          have l0 : li_ 0 = true := (hS ⟨0, .phase⟩ (by simp) rfl).1
                          have l1 : li_ 1 = true := (hS ⟨1, .phase⟩ (by simp) rfl).1
                          have l2 : li_ 2 = true := (hS ⟨2, .phase⟩ (by simp) rfl).1
                          have l3 : li_ 3 = true := (hS ⟨3, .phase⟩ (by simp) rfl).1
                          have l4 : li_ 4 = true := (hS ⟨4, .phase⟩ (by simp) rfl).1
                          have l5 : li_ 5 = true := (hS ⟨5, .phase⟩ (by simp) rfl).1
                          have l6 : li_ 6 = true := (hS ⟨6, .phase⟩ (by simp) rfl).1
                          have l7 : li_ 7 = true := (hS ⟨7, .phase⟩ (by simp) rfl).1
                          have l8 : li_ 8 = true := (hS ⟨8, .phase⟩ (by simp) rfl).1
                          have l9 : li_ 9 = true := (hS ⟨9, .phase⟩ (by simp) rfl).1
                          have l10 : li_ 10 = true := (hS ⟨10, .phase⟩ (by simp) rfl).1
                          have l12 : li_ 12 = true := (hS ⟨12, .phase⟩ (by simp) rfl).1
                          have e110 : a_.eval (.tmp 110) = (.bool true) := (hS ⟨11, .data⟩ (by simp) rfl).2 _ rfl
                          refine wantD (by rfl) ?_
                          exact opF_val rfl (ex_assign rfl w1) hJ e110
                      intro v0_ h0_ v1_ h1_ v2_ h2_ v3_ h3_ v4_ h4_ v5_ h5_ v6_ h6_ v7_ h7_ v8_ h8_ v9_ h9_ v10_ h10_ v11_ h11_ v12_ h12_ v13_ h13_ v14_ h14_
                      intro wq hq_
                      have q_ : v0_ = (.int .i64 (k : Int)) := h0_; clear h0_; subst q_
                      have q_ : v1_ = (.slice (some ad1) l.length cap1) := h1_; clear h1_; subst q_
                      have q_ : v2_ = (.int .i64 (k : Int)) := h2_; clear h2_; subst q_
                      have q_ : v3_ = (.pointer (some (ad1.add (k * 16)))) := h3_; clear h3_; subst q_
                      have q_ : v4_ = y.val := h4_; clear h4_; subst q_
                      have q_ : v5_ = (.slice ao2 p.length cap2) := h5_; clear h5_; subst q_
                      have q_ : v6_ = x.val := h6_; clear h6_; subst q_
                      have q_ : v7_ = (.slice ao3 pp.length cap3) := h7_; clear h7_; subst q_
                      have q_ : v8_ = (.tuple #[.agg (twoCs lv A B).toArray, .bool true]) := h8_; clear h8_; subst q_
                      have q_ : v9_ = (.tuple #[.agg (twoCs lv A B).toArray, .bool true]) := h9_; clear h9_; subst q_
                      have q_ : v10_ = (.agg (twoCs lv A B).toArray) := h10_; clear h10_; subst q_
                      have q_ : v11_ = (.bool true) := h11_; clear h11_; subst q_
                      obtain ⟨g18_, rfl⟩ := h12_
                      clear h13_
                      have q_ : v14_ = (.bool true) := h14_; clear h14_; subst q_
                      have HQ := hid hq_; clear hq_
                      simp only [putsD, Act.put, List.setIfInBounds_toArray, List.set_cons_succ, List.set_cons_zero]
                      have hq2_ : Holds w [] [(g18_, objC (twoCs lv A B) 82), (g11_, objC r.cells 34), (g8_, objC x.cells 41), (g4_, objC (claimCs (k : Int) x (.slice ap pp.length cp)) 79)] [rowA 34 ao3 cap3 pp, rowA 34 ao2 cap2 p, rowA 34 (some ad1) cap1 l] wq := HQ.out
                      clear HH HQ
                      have HH := hid hq2_
                      clear hq2_
                      go_wp2_with (first
                        | ((first
                            | ((with_reducible apply wpL_skip); rfl; skip)
                            | ((with_reducible apply wpL_nilCheck); rfl; rfl)
                            | ((with_reducible apply wpL_fieldAddr); (first | exact kF79_0 | exact kF79_1 | exact kF79_2 | exact kF82_0 | exact kF82_1 | exact kF82_2); rfl; rfl)
                            | ((with_reducible apply wpL_load1 (t := 3) kO3 HH.out); rfl; (repeat (first | exact .here | refine .there ?_)); rfl; rfl)
                            | ((with_reducible apply wpL_load1 (t := 30) kO30 HH.out); rfl; (repeat (first | exact .here | refine .there ?_)); rfl; rfl)
                            | ((with_reducible apply wpL_loadArr (t := 34) kA34 HH.out); rfl; (repeat (first | exact .here | refine .there ?_)); rfl)
                            | ((with_reducible apply wpL_loadArr (t := 41) kA41 HH.out); rfl; (repeat (first | exact .here | refine .there ?_)); rfl)
                            | ((with_reducible apply wpL_loadC (t := 80) kA80 HH.out); rfl; (repeat (first | exact .here | refine .there ?_)); (first | rfl | exact Arr.len _ | (simp; done)); rfl)
                            | ((with_reducible apply wpL_loadC (t := 82) kA82 HH.out); rfl; (repeat (first | exact .here | refine .there ?_)); (first | rfl | exact Arr.len _ | (simp; done)); rfl)
                            | ((with_reducible apply wpL_len (t := 30) Try.underlying30); rfl; rfl)
                            | ((with_reducible apply wpL_len (t := 46) Try.underlying46); rfl; rfl)
                            | ((with_reducible apply wpL_boxC (dst := some 4)); rfl; (exact HH.out); rfl; (intro g4_ w_ hq_; (try simp only [List.set_cons_zero, List.set_cons_succ] at hq_); clear HH; have HH := hid hq_; clear hq_))
                            | ((with_reducible apply wpL_allocC (dst := some 8) kZ41 HH.out); rfl; (intro g8_ w_ hq_; (try simp only [List.set_cons_zero, List.set_cons_succ] at hq_); clear HH; have HH := hid hq_; clear hq_))
                            | ((with_reducible apply wpL_allocC (dst := some 11) kZ34 HH.out); rfl; (intro g11_ w_ hq_; (try simp only [List.set_cons_zero, List.set_cons_succ] at hq_); clear HH; have HH := hid hq_; clear hq_))
                            | ((with_reducible apply wpL_allocC (dst := some 18) kZ82 HH.out); rfl; (intro g18_ w_ hq_; (try simp only [List.set_cons_zero, List.set_cons_succ] at hq_); clear HH; have HH := hid hq_; clear hq_))
                            | ((with_reducible apply wpL_storeArr (t := 34) kS34 HH.out); rfl; rfl; (repeat (first | exact .here | refine .there ?_)); (first | rfl | exact Arr.len _ | (simp; done)); rfl; (intro w_ hq_; (try simp only [List.set_cons_zero, List.set_cons_succ] at hq_); clear HH; have HH := hid hq_; clear hq_))
                            | ((with_reducible apply wpL_storeArr (t := 41) kS41 HH.out); rfl; rfl; (repeat (first | exact .here | refine .there ?_)); (first | rfl | exact Arr.len _ | (simp; done)); rfl; (intro w_ hq_; (try simp only [List.set_cons_zero, List.set_cons_succ] at hq_); clear HH; have HH := hid hq_; clear hq_))
                            | ((with_reducible apply wpL_storeC (t := 82)); rfl; rfl; (exact kS82); (exact HH.out); (repeat (first | exact .here | refine .there ?_)); (first | rfl | exact Arr.len _ | (simp; done)); (first | rfl | (intro u_ hu_; simp only [List.mem_cons, List.not_mem_nil, or_false] at hu_; rcases hu_ with rfl | hu_; rfl) | exact byt_cell1 _ | exact cells_one _ | exact wrd_one _ | exact flat_cell1 _); (first | rfl | exact Arr.len _ | (simp; done)); rfl; (intro w_ hq_; (try simp only [List.set_cons_zero, List.set_cons_succ] at hq_); clear HH; have HH := hid hq_; clear hq_))
                            | ((with_reducible apply wpL_move); rfl; rfl)
                            | ((with_reducible apply wpL_assign); rfl; rfl)
                            | ((with_reducible apply wpL_pick); rfl; rfl; rfl)
                            | ((with_reducible apply wpL_not); rfl; rfl)
                            | ((with_reducible apply wpL_cmp (b := true)); rfl; rfl; rfl; (first | rfl | assumption | (simp only [cmpB, decide_eq_true_eq, decide_eq_false_iff_not, beq_iff_eq, bne_iff_ne, ne_eq, beq_eq_false_iff_ne, bne_eq_false_iff_eq, gt_iff_lt, ge_iff_le]; omega) | (simp; omega)); rfl)
                            | ((with_reducible apply wpL_cmp (b := false)); rfl; rfl; rfl; (first | rfl | assumption | (simp only [cmpB, decide_eq_true_eq, decide_eq_false_iff_not, beq_iff_eq, bne_iff_ne, ne_eq, beq_eq_false_iff_ne, bne_eq_false_iff_eq, gt_iff_lt, ge_iff_le]; omega) | (simp; omega)); rfl)
                            | ((with_reducible apply wpL_cmp); rfl; rfl; rfl; rfl; rfl)
                            | ((with_reducible apply wpL_arith); rfl; rfl; rfl; (exact IntWalk.i64_in _ (by (try simp only [arithI]); omega)); rfl)); (try simp only [arithI, Act.put, Act.eval, List.setIfInBounds_toArray, List.set_cons_succ, List.set_cons_zero, Array.getD_eq_getD_getElem?, List.getElem?_toArray, List.getElem?_cons_succ, List.getElem?_cons_zero, Option.getD_some])))
                      refine wp_region_holds (by kernel_rfl) (by kernel_rfl) HH.out ?_
                      repeat ((first
                        | ((with_reducible apply wpQ_skip); rfl; skip)
                        | ((with_reducible apply wpQ_loadPA (dst := some 123) (t := 80) (v := A) kA80); rfl; (exact .here); (exact two_a _ _ _); rfl)
                        | ((with_reducible apply wpQ_loadPA (dst := some 125) (t := 80) (v := B) kA80); rfl; (exact .here); (exact two_b _ _ _); rfl)
                        | ((with_reducible apply wpQ_neq80 (p := A) (q := B) (b := true)); rfl; rfl; (exact HAB.out); rfl)
                        | ((with_reducible apply wpQ_indexE (dst := some 132) (m := 0) Try.underlying80 kS34 (by decide)); rfl; rfl; rfl; (exact (by decide)); rfl)
                        | ((with_reducible apply wpQ_indexE (dst := some 135) (m := 1) Try.underlying80 kS34 (by decide)); rfl; rfl; rfl; (exact (by decide)); rfl)
                        | ((with_reducible apply wpQ_indexE (dst := some 141) (m := 0) Try.underlying80 kS34 (by decide)); rfl; rfl; rfl; (exact (by decide)); rfl)
                        | ((with_reducible apply wpQ_indexE (dst := some 144) (m := 1) Try.underlying80 kS34 (by decide)); rfl; rfl; rfl; (exact (by decide)); rfl)
                        | ((with_reducible apply wpQ_loadPA (dst := some 133) (t := 34) (v := A0) kA34); rfl; (exact .here); (exact (two_part HA2.out).1); rfl)
                        | ((with_reducible apply wpQ_loadPA (dst := some 136) (t := 34) (v := A1) kA34); rfl; (exact .here); (exact (two_part HA2.out).2); rfl)
                        | ((with_reducible apply wpQ_loadPA (dst := some 142) (t := 34) (v := B0) kA34); rfl; (exact .here); (exact (two_part HB2.out).1); rfl)
                        | ((with_reducible apply wpQ_loadPA (dst := some 145) (t := 34) (v := B1) kA34); rfl; (exact .here); (exact (two_part HB2.out).2); rfl)
                        | ((with_reducible apply wpQ_call (dst := some 137) (v := d.val) (args := #[.int .i64 lv, A0.val, A1.val]) kB37); rfl; (intro wq hwq; exact (join_any wq lv A0 A1).mono fun e w' ⟨he, hb⟩ => ⟨by rw [he, HDA.out], hwq.grow hb⟩); rfl)
                        | ((with_reducible apply wpQ_call (dst := some 146) (v := d.val) (args := #[.int .i64 lv, B0.val, B1.val]) kB37); rfl; (intro wq hwq; exact (join_any wq lv B0 B1).mono fun e w' ⟨he, hb⟩ => ⟨by rw [he, HDB.out], hwq.grow hb⟩); rfl)
                        | ((with_reducible apply wpQ_eqlA (b := true) (p := d) (q := d) kR34); rfl; rfl; (exact arrRefl _); rfl)
                        | ((with_reducible apply wpQ_nilCheck); rfl; rfl)
                        | ((with_reducible apply wpQ_fieldAddr); (first | exact kF79_0 | exact kF79_1 | exact kF79_2 | exact kF82_0 | exact kF82_1 | exact kF82_2); rfl; rfl)
                        | ((with_reducible apply wpQ_load1 (t := 3) kO3); rfl; (repeat (first | exact .here | refine .there ?_)); rfl; rfl)
                        | ((with_reducible apply wpQ_load1 (t := 30) kO30); rfl; (repeat (first | exact .here | refine .there ?_)); rfl; rfl)
                        | ((with_reducible apply wpQ_loadArr (t := 34) kA34); rfl; (repeat (first | exact .here | refine .there ?_)); rfl)
                        | ((with_reducible apply wpQ_loadArr (t := 41) kA41); rfl; (repeat (first | exact .here | refine .there ?_)); rfl)
                        | ((with_reducible apply wpQ_loadC (t := 80) kA80); rfl; (repeat (first | exact .here | refine .there ?_)); (first | rfl | exact Arr.len _ | (simp; done)); rfl)
                        | ((with_reducible apply wpQ_loadC (t := 82) kA82); rfl; (repeat (first | exact .here | refine .there ?_)); (first | rfl | exact Arr.len _ | (simp; done)); rfl)
                        | ((with_reducible apply wpQ_len (t := 30) Try.underlying30); rfl; rfl)
                        | ((with_reducible apply wpQ_len (t := 46) Try.underlying46); rfl; rfl)
                        | ((with_reducible apply wpQ_move); rfl; rfl)
                        | ((with_reducible apply wpQ_assign); rfl; rfl)
                        | ((with_reducible apply wpQ_pick); rfl; rfl; rfl)
                        | ((with_reducible apply wpQ_not); rfl; rfl)
                        | ((with_reducible apply wpQ_cmp (b := true)); rfl; rfl; rfl; (first | rfl | assumption | (simp only [cmpB, decide_eq_true_eq, decide_eq_false_iff_not, beq_iff_eq, bne_iff_ne, ne_eq, beq_eq_false_iff_ne, bne_eq_false_iff_eq, gt_iff_lt, ge_iff_le]; omega) | (simp; omega)); rfl)
                        | ((with_reducible apply wpQ_cmp (b := false)); rfl; rfl; rfl; (first | rfl | assumption | (simp only [cmpB, decide_eq_true_eq, decide_eq_false_iff_not, beq_iff_eq, bne_iff_ne, ne_eq, beq_eq_false_iff_ne, bne_eq_false_iff_eq, gt_iff_lt, ge_iff_le]; omega) | (simp; omega)); rfl)
                        | ((with_reducible apply wpQ_cmp); rfl; rfl; rfl; rfl; rfl)
                        | ((with_reducible apply wpQ_arith); rfl; rfl; rfl; (exact IntWalk.i64_in _ (by (try simp only [arithI]); omega)); rfl)); (try simp only [if_true, if_false, Bool.false_eq_true, arithI, Act.put, Act.eval, List.setIfInBounds_toArray, List.set_cons_succ, List.set_cons_zero, Array.getD_eq_getD_getElem?, List.getElem?_toArray, List.getElem?_cons_succ, List.getElem?_cons_zero, Option.getD_some]))
                      refine wpQuiet_nil ?_
                      intro wq hq_
                      have HQ := hid hq_
                      clear hq_
                      go_wp2
                      go_ret
                      exact RetB.mk rfl HQ.out.below
            · have hlb : ((pp.length : Int) != (p.length : Int)) = true := by simp; omega
              clear hr hc hp hpc hlq hik hkl hy
              go_wp2_with (first
                | ((first
                    | ((with_reducible apply wpL_skip); rfl; skip)
                    | (go_at_call 23; (first | ((have hcall_ := hid (knownM_any _)); (with_reducible refine hcall_.out.mono ?_); clear hcall_) | (with_reducible refine (knownM_any _).mono ?_)); rintro e_ w2_ ⟨rfl, hb_⟩; (have hq_ := HH.out.grow hb_); clear HH; have HH := hid hq_; clear hq_ hb_)
                    | (go_at_call 49; (have hcall_ := hid (ownN_any _ (.slice ao l.length cap) l (HH.out.sl HL.out) (by omega))); (with_reducible refine hcall_.out.mono ?_); clear hcall_; rintro e_ w2_ ⟨ao1, cap1, rfl, hr_, hb_⟩; (have hq_ := HH.out.addRow hb_ hr_); clear HH; have HH := hid hq_; clear hq_ hb_ hr_)
                    | (go_at_call 38; (have hcall_ := hid (root_any _ _ l HH.out.sl0 (by omega))); (with_reducible refine hcall_.out.mono ?_); clear hcall_; rw [HR.out, HC.out]; rintro e_ w2_ ⟨rfl, hb_⟩; (have hq_ := HH.out.grow hb_); clear HH; have HH := hid hq_; clear hq_ hb_)
                    | (go_at_call 51; (have hcall_ := hid (progPathO_any _ _ l (k:Int) HH.out.sl0 (by omega))); (with_reducible refine hcall_.out.mono ?_); clear hcall_; rw [HP.out, HPC.out]; rintro e_ w2_ ⟨ao2, cap2, rfl, hr_, hb_⟩; (have hq_ := HH.out.addRow hb_ hr_); clear HH; have HH := hid hq_; clear hq_ hb_ hr_)
                    | (go_at_call 49; (have hcall_ := hid (ownN_any _ (.slice ap pp.length cp) pp (HH.out.sl HPP.out) (by omega))); (with_reducible refine hcall_.out.mono ?_); clear hcall_; rintro e_ w2_ ⟨ao3, cap3, rfl, hr_, hb_⟩; (have hq_ := HH.out.addRow hb_ hr_); clear HH; have HH := hid hq_; clear hq_ hb_ hr_)
                    | ((with_reducible apply wpL_nilCheck); rfl; rfl)
                    | ((with_reducible apply wpL_fieldAddr); (first | exact kF79_0 | exact kF79_1 | exact kF79_2 | exact kF82_0 | exact kF82_1 | exact kF82_2); rfl; rfl)
                    | ((with_reducible apply wpL_load1 (t := 3) kO3 HH.out); rfl; (repeat (first | exact .here | refine .there ?_)); rfl; rfl)
                    | ((with_reducible apply wpL_load1 (t := 30) kO30 HH.out); rfl; (repeat (first | exact .here | refine .there ?_)); rfl; rfl)
                    | ((with_reducible apply wpL_loadArr (t := 34) kA34 HH.out); rfl; (repeat (first | exact .here | refine .there ?_)); rfl)
                    | ((with_reducible apply wpL_loadArr (t := 41) kA41 HH.out); rfl; (repeat (first | exact .here | refine .there ?_)); rfl)
                    | ((with_reducible apply wpL_loadC (t := 80) kA80 HH.out); rfl; (repeat (first | exact .here | refine .there ?_)); (first | rfl | exact Arr.len _ | (simp; done)); rfl)
                    | ((with_reducible apply wpL_loadC (t := 82) kA82 HH.out); rfl; (repeat (first | exact .here | refine .there ?_)); (first | rfl | exact Arr.len _ | (simp; done)); rfl)
                    | ((with_reducible apply wpL_len (t := 30) Try.underlying30); rfl; rfl)
                    | ((with_reducible apply wpL_len (t := 46) Try.underlying46); rfl; rfl)
                    | ((with_reducible apply wpL_boxC (dst := some 4)); rfl; (exact HH.out); rfl; (intro g4_ w_ hq_; (try simp only [List.set_cons_zero, List.set_cons_succ] at hq_); clear HH; have HH := hid hq_; clear hq_))
                    | ((with_reducible apply wpL_allocC (dst := some 8) kZ41 HH.out); rfl; (intro g8_ w_ hq_; (try simp only [List.set_cons_zero, List.set_cons_succ] at hq_); clear HH; have HH := hid hq_; clear hq_))
                    | ((with_reducible apply wpL_allocC (dst := some 11) kZ34 HH.out); rfl; (intro g11_ w_ hq_; (try simp only [List.set_cons_zero, List.set_cons_succ] at hq_); clear HH; have HH := hid hq_; clear hq_))
                    | ((with_reducible apply wpL_allocC (dst := some 18) kZ82 HH.out); rfl; (intro g18_ w_ hq_; (try simp only [List.set_cons_zero, List.set_cons_succ] at hq_); clear HH; have HH := hid hq_; clear hq_))
                    | ((with_reducible apply wpL_storeArr (t := 34) kS34 HH.out); rfl; rfl; (repeat (first | exact .here | refine .there ?_)); (first | rfl | exact Arr.len _ | (simp; done)); rfl; (intro w_ hq_; (try simp only [List.set_cons_zero, List.set_cons_succ] at hq_); clear HH; have HH := hid hq_; clear hq_))
                    | ((with_reducible apply wpL_storeArr (t := 41) kS41 HH.out); rfl; rfl; (repeat (first | exact .here | refine .there ?_)); (first | rfl | exact Arr.len _ | (simp; done)); rfl; (intro w_ hq_; (try simp only [List.set_cons_zero, List.set_cons_succ] at hq_); clear HH; have HH := hid hq_; clear hq_))
                    | ((with_reducible apply wpL_storeC (t := 82)); rfl; rfl; (exact kS82); (exact HH.out); (repeat (first | exact .here | refine .there ?_)); (first | rfl | exact Arr.len _ | (simp; done)); (first | rfl | (intro u_ hu_; simp only [List.mem_cons, List.not_mem_nil, or_false] at hu_; rcases hu_ with rfl | hu_; rfl) | exact byt_cell1 _ | exact cells_one _ | exact wrd_one _ | exact flat_cell1 _); (first | rfl | exact Arr.len _ | (simp; done)); rfl; (intro w_ hq_; (try simp only [List.set_cons_zero, List.set_cons_succ] at hq_); clear HH; have HH := hid hq_; clear hq_))
                    | ((with_reducible apply wpL_move); rfl; rfl)
                    | ((with_reducible apply wpL_assign); rfl; rfl)
                    | ((with_reducible apply wpL_pick); rfl; rfl; rfl)
                    | ((with_reducible apply wpL_not); rfl; rfl)
                    | ((with_reducible apply wpL_cmp (b := true)); rfl; rfl; rfl; (first | rfl | assumption | (simp only [cmpB, decide_eq_true_eq, decide_eq_false_iff_not, beq_iff_eq, bne_iff_ne, ne_eq, beq_eq_false_iff_ne, bne_eq_false_iff_eq, gt_iff_lt, ge_iff_le]; omega) | (simp; omega)); rfl)
                    | ((with_reducible apply wpL_cmp (b := false)); rfl; rfl; rfl; (first | rfl | assumption | (simp only [cmpB, decide_eq_true_eq, decide_eq_false_iff_not, beq_iff_eq, bne_iff_ne, ne_eq, beq_eq_false_iff_ne, bne_eq_false_iff_eq, gt_iff_lt, ge_iff_le]; omega) | (simp; omega)); rfl)
                    | ((with_reducible apply wpL_cmp); rfl; rfl; rfl; rfl; rfl)
                    | ((with_reducible apply wpL_arith); rfl; rfl; rfl; (exact IntWalk.i64_in _ (by (try simp only [arithI]); omega)); rfl)); (try simp only [arithI, Act.put, Act.eval, List.setIfInBounds_toArray, List.set_cons_succ, List.set_cons_zero, Array.getD_eq_getD_getElem?, List.getElem?_toArray, List.getElem?_cons_succ, List.getElem?_cons_zero, Option.getD_some])))
              go_ret
              exact RetB.mk rfl HH.out.below
          | true =>
            have HQL10 := HPL
            by_cases hlq : p.length = p.length
            · obtain ⟨vb, hvb⟩ : ∃ vb, verB r x k p = vb := ⟨_, rfl⟩
              have HVB := hid hvb
              have HLQ := hid (show SameLen p p from hlq)
              have hlb : ((p.length : Int) != (p.length : Int)) = false := by simp [hlq]
              cases vb with
              | false =>
                clear hr hc hp hpc hlq hvb hik hkl hy
                go_wp2_with (first
                  | ((first
                      | ((with_reducible apply wpL_skip); rfl; skip)
                      | (go_at_call 23; (first | ((have hcall_ := hid (knownM_any _)); (with_reducible refine hcall_.out.mono ?_); clear hcall_) | (with_reducible refine (knownM_any _).mono ?_)); rintro e_ w2_ ⟨rfl, hb_⟩; (have hq_ := HH.out.grow hb_); clear HH; have HH := hid hq_; clear hq_ hb_)
                      | (go_at_call 49; (have hcall_ := hid (ownN_any _ (.slice ao l.length cap) l (HH.out.sl HL.out) (by omega))); (with_reducible refine hcall_.out.mono ?_); clear hcall_; rintro e_ w2_ ⟨ao1, cap1, rfl, hr_, hb_⟩; (have hq_ := HH.out.addRow hb_ hr_); clear HH; have HH := hid hq_; clear hq_ hb_ hr_)
                      | (go_at_call 38; (have hcall_ := hid (root_any _ _ l HH.out.sl0 (by omega))); (with_reducible refine hcall_.out.mono ?_); clear hcall_; rw [HR.out, HC.out]; rintro e_ w2_ ⟨rfl, hb_⟩; (have hq_ := HH.out.grow hb_); clear HH; have HH := hid hq_; clear hq_ hb_)
                      | (go_at_call 51; (have hcall_ := hid (progPathO_any _ _ l (k:Int) HH.out.sl0 (by omega))); (with_reducible refine hcall_.out.mono ?_); clear hcall_; rw [HP.out, HPC.out]; rintro e_ w2_ ⟨ao2, cap2, rfl, hr_, hb_⟩; (have hq_ := HH.out.addRow hb_ hr_); clear HH; have HH := hid hq_; clear hq_ hb_ hr_)
                      | (go_at_call 49; (have hcall_ := hid (ownN_any _ (.slice ap pp.length cp) pp (HH.out.sl HPP.out) (by omega))); (with_reducible refine hcall_.out.mono ?_); clear hcall_; rintro e_ w2_ ⟨ao3, cap3, rfl, hr_, hb_⟩; (have hq_ := HH.out.addRow hb_ hr_); clear HH; have HH := hid hq_; clear hq_ hb_ hr_)
                      | (go_at_call 53; (have hcall_ := hid (verify_any _ _ r x (k:Int) p (HH.out.sl1) HQL10.out)); (with_reducible refine hcall_.out.mono ?_); clear hcall_; rw [HVB.out]; rintro e_ w2_ ⟨rfl, hb_⟩; (have hq_ := HH.out.grow hb_); clear HH; have HH := hid hq_; clear hq_ hb_)
                      | ((with_reducible apply wpL_nilCheck); rfl; rfl)
                      | ((with_reducible apply wpL_fieldAddr); (first | exact kF79_0 | exact kF79_1 | exact kF79_2 | exact kF82_0 | exact kF82_1 | exact kF82_2); rfl; rfl)
                      | ((with_reducible apply wpL_load1 (t := 3) kO3 HH.out); rfl; (repeat (first | exact .here | refine .there ?_)); rfl; rfl)
                      | ((with_reducible apply wpL_load1 (t := 30) kO30 HH.out); rfl; (repeat (first | exact .here | refine .there ?_)); rfl; rfl)
                      | ((with_reducible apply wpL_loadArr (t := 34) kA34 HH.out); rfl; (repeat (first | exact .here | refine .there ?_)); rfl)
                      | ((with_reducible apply wpL_loadArr (t := 41) kA41 HH.out); rfl; (repeat (first | exact .here | refine .there ?_)); rfl)
                      | ((with_reducible apply wpL_loadC (t := 80) kA80 HH.out); rfl; (repeat (first | exact .here | refine .there ?_)); (first | rfl | exact Arr.len _ | (simp; done)); rfl)
                      | ((with_reducible apply wpL_loadC (t := 82) kA82 HH.out); rfl; (repeat (first | exact .here | refine .there ?_)); (first | rfl | exact Arr.len _ | (simp; done)); rfl)
                      | ((with_reducible apply wpL_len (t := 30) Try.underlying30); rfl; rfl)
                      | ((with_reducible apply wpL_len (t := 46) Try.underlying46); rfl; rfl)
                      | ((with_reducible apply wpL_boxC (dst := some 4)); rfl; (exact HH.out); rfl; (intro g4_ w_ hq_; (try simp only [List.set_cons_zero, List.set_cons_succ] at hq_); clear HH; have HH := hid hq_; clear hq_))
                      | ((with_reducible apply wpL_allocC (dst := some 8) kZ41 HH.out); rfl; (intro g8_ w_ hq_; (try simp only [List.set_cons_zero, List.set_cons_succ] at hq_); clear HH; have HH := hid hq_; clear hq_))
                      | ((with_reducible apply wpL_allocC (dst := some 11) kZ34 HH.out); rfl; (intro g11_ w_ hq_; (try simp only [List.set_cons_zero, List.set_cons_succ] at hq_); clear HH; have HH := hid hq_; clear hq_))
                      | ((with_reducible apply wpL_allocC (dst := some 18) kZ82 HH.out); rfl; (intro g18_ w_ hq_; (try simp only [List.set_cons_zero, List.set_cons_succ] at hq_); clear HH; have HH := hid hq_; clear hq_))
                      | ((with_reducible apply wpL_storeArr (t := 34) kS34 HH.out); rfl; rfl; (repeat (first | exact .here | refine .there ?_)); (first | rfl | exact Arr.len _ | (simp; done)); rfl; (intro w_ hq_; (try simp only [List.set_cons_zero, List.set_cons_succ] at hq_); clear HH; have HH := hid hq_; clear hq_))
                      | ((with_reducible apply wpL_storeArr (t := 41) kS41 HH.out); rfl; rfl; (repeat (first | exact .here | refine .there ?_)); (first | rfl | exact Arr.len _ | (simp; done)); rfl; (intro w_ hq_; (try simp only [List.set_cons_zero, List.set_cons_succ] at hq_); clear HH; have HH := hid hq_; clear hq_))
                      | ((with_reducible apply wpL_storeC (t := 82)); rfl; rfl; (exact kS82); (exact HH.out); (repeat (first | exact .here | refine .there ?_)); (first | rfl | exact Arr.len _ | (simp; done)); (first | rfl | (intro u_ hu_; simp only [List.mem_cons, List.not_mem_nil, or_false] at hu_; rcases hu_ with rfl | hu_; rfl) | exact byt_cell1 _ | exact cells_one _ | exact wrd_one _ | exact flat_cell1 _); (first | rfl | exact Arr.len _ | (simp; done)); rfl; (intro w_ hq_; (try simp only [List.set_cons_zero, List.set_cons_succ] at hq_); clear HH; have HH := hid hq_; clear hq_))
                      | ((with_reducible apply wpL_move); rfl; rfl)
                      | ((with_reducible apply wpL_assign); rfl; rfl)
                      | ((with_reducible apply wpL_pick); rfl; rfl; rfl)
                      | ((with_reducible apply wpL_not); rfl; rfl)
                      | ((with_reducible apply wpL_cmp (b := true)); rfl; rfl; rfl; (first | rfl | assumption | (simp only [cmpB, decide_eq_true_eq, decide_eq_false_iff_not, beq_iff_eq, bne_iff_ne, ne_eq, beq_eq_false_iff_ne, bne_eq_false_iff_eq, gt_iff_lt, ge_iff_le]; omega) | (simp; omega)); rfl)
                      | ((with_reducible apply wpL_cmp (b := false)); rfl; rfl; rfl; (first | rfl | assumption | (simp only [cmpB, decide_eq_true_eq, decide_eq_false_iff_not, beq_iff_eq, bne_iff_ne, ne_eq, beq_eq_false_iff_ne, bne_eq_false_iff_eq, gt_iff_lt, ge_iff_le]; omega) | (simp; omega)); rfl)
                      | ((with_reducible apply wpL_cmp); rfl; rfl; rfl; rfl; rfl)
                      | ((with_reducible apply wpL_arith); rfl; rfl; rfl; (exact IntWalk.i64_in _ (by (try simp only [arithI]); omega)); rfl)); (try simp only [arithI, Act.put, Act.eval, List.setIfInBounds_toArray, List.set_cons_succ, List.set_cons_zero, Array.getD_eq_getD_getElem?, List.getElem?_toArray, List.getElem?_cons_succ, List.getElem?_cons_zero, Option.getD_some])))
                go_ret
                exact RetB.mk rfl HH.out.below
              | true =>
                have hfl := HFL.out p hlq hvb
                have HCV := hid hfl.1
                have HFG := hid (show (x = y ∧ SameList p p → topD (pairA k y p) (pairA k x p) p.length = (0, zP, zP)) ∧ (¬ (x = y ∧ SameList p p) → ∃ (lv : Int) (A0 A1 B0 B1 : Nd), topD (pairA k y p) (pairA k x p) p.length = (lv, jn A0 A1, jn B0 B1) ∧ 0 < lv ∧ jn A0 A1 ≠ jn B0 B1 ∧ joinN lv A0 A1 = joinN lv B0 B1) from forged hlq.symm rfl hfl.2.1)
                obtain ⟨b1, hb1⟩ : ∃ b1, (!(x == y)) = b1 := ⟨_, rfl⟩
                have HB1 := hid hb1
                clear hr hc hp hpc hlq hvb hik hfl hb1 hkl hy
                go_wp2_with (first
                  | ((first
                      | ((with_reducible apply wpL_skip); rfl; skip)
                      | (go_at_call 23; (first | ((have hcall_ := hid (knownM_any _)); (with_reducible refine hcall_.out.mono ?_); clear hcall_) | (with_reducible refine (knownM_any _).mono ?_)); rintro e_ w2_ ⟨rfl, hb_⟩; (have hq_ := HH.out.grow hb_); clear HH; have HH := hid hq_; clear hq_ hb_)
                      | (go_at_call 49; (have hcall_ := hid (ownN_any _ (.slice ao l.length cap) l (HH.out.sl HL.out) (by omega))); (with_reducible refine hcall_.out.mono ?_); clear hcall_; rintro e_ w2_ ⟨ao1, cap1, rfl, hr_, hb_⟩; (have hq_ := HH.out.addRow hb_ hr_); clear HH; have HH := hid hq_; clear hq_ hb_ hr_)
                      | (go_at_call 38; (have hcall_ := hid (root_any _ _ l HH.out.sl0 (by omega))); (with_reducible refine hcall_.out.mono ?_); clear hcall_; rw [HR.out, HC.out]; rintro e_ w2_ ⟨rfl, hb_⟩; (have hq_ := HH.out.grow hb_); clear HH; have HH := hid hq_; clear hq_ hb_)
                      | (go_at_call 51; (have hcall_ := hid (progPathO_any _ _ l (k:Int) HH.out.sl0 (by omega))); (with_reducible refine hcall_.out.mono ?_); clear hcall_; rw [HP.out, HPC.out]; rintro e_ w2_ ⟨ao2, cap2, rfl, hr_, hb_⟩; (have hq_ := HH.out.addRow hb_ hr_); clear HH; have HH := hid hq_; clear hq_ hb_ hr_)
                      | (go_at_call 49; (have hcall_ := hid (ownN_any _ (.slice ap pp.length cp) pp (HH.out.sl HPP.out) (by omega))); (with_reducible refine hcall_.out.mono ?_); clear hcall_; rintro e_ w2_ ⟨ao3, cap3, rfl, hr_, hb_⟩; (have hq_ := HH.out.addRow hb_ hr_); clear HH; have HH := hid hq_; clear hq_ hb_ hr_)
                      | (go_at_call 53; (have hcall_ := hid (verify_any _ _ r x (k:Int) p (HH.out.sl1) HQL10.out)); (with_reducible refine hcall_.out.mono ?_); clear hcall_; rw [HVB.out]; rintro e_ w2_ ⟨rfl, hb_⟩; (have hq_ := HH.out.grow hb_); clear HH; have HH := hid hq_; clear hq_ hb_)
                      | ((with_reducible apply wpL_nilCheck); rfl; rfl)
                      | ((with_reducible apply wpL_fieldAddr); (first | exact kF79_0 | exact kF79_1 | exact kF79_2 | exact kF82_0 | exact kF82_1 | exact kF82_2); rfl; rfl)
                      | ((with_reducible apply wpL_load1 (t := 3) kO3 HH.out); rfl; (repeat (first | exact .here | refine .there ?_)); rfl; rfl)
                      | ((with_reducible apply wpL_load1 (t := 30) kO30 HH.out); rfl; (repeat (first | exact .here | refine .there ?_)); rfl; rfl)
                      | ((with_reducible apply wpL_loadArr (t := 34) kA34 HH.out); rfl; (repeat (first | exact .here | refine .there ?_)); rfl)
                      | ((with_reducible apply wpL_loadArr (t := 41) kA41 HH.out); rfl; (repeat (first | exact .here | refine .there ?_)); rfl)
                      | ((with_reducible apply wpL_loadC (t := 80) kA80 HH.out); rfl; (repeat (first | exact .here | refine .there ?_)); (first | rfl | exact Arr.len _ | (simp; done)); rfl)
                      | ((with_reducible apply wpL_loadC (t := 82) kA82 HH.out); rfl; (repeat (first | exact .here | refine .there ?_)); (first | rfl | exact Arr.len _ | (simp; done)); rfl)
                      | ((with_reducible apply wpL_len (t := 30) Try.underlying30); rfl; rfl)
                      | ((with_reducible apply wpL_len (t := 46) Try.underlying46); rfl; rfl)
                      | ((with_reducible apply wpL_boxC (dst := some 4)); rfl; (exact HH.out); rfl; (intro g4_ w_ hq_; (try simp only [List.set_cons_zero, List.set_cons_succ] at hq_); clear HH; have HH := hid hq_; clear hq_))
                      | ((with_reducible apply wpL_allocC (dst := some 8) kZ41 HH.out); rfl; (intro g8_ w_ hq_; (try simp only [List.set_cons_zero, List.set_cons_succ] at hq_); clear HH; have HH := hid hq_; clear hq_))
                      | ((with_reducible apply wpL_allocC (dst := some 11) kZ34 HH.out); rfl; (intro g11_ w_ hq_; (try simp only [List.set_cons_zero, List.set_cons_succ] at hq_); clear HH; have HH := hid hq_; clear hq_))
                      | ((with_reducible apply wpL_allocC (dst := some 18) kZ82 HH.out); rfl; (intro g18_ w_ hq_; (try simp only [List.set_cons_zero, List.set_cons_succ] at hq_); clear HH; have HH := hid hq_; clear hq_))
                      | ((with_reducible apply wpL_storeArr (t := 34) kS34 HH.out); rfl; rfl; (repeat (first | exact .here | refine .there ?_)); (first | rfl | exact Arr.len _ | (simp; done)); rfl; (intro w_ hq_; (try simp only [List.set_cons_zero, List.set_cons_succ] at hq_); clear HH; have HH := hid hq_; clear hq_))
                      | ((with_reducible apply wpL_storeArr (t := 41) kS41 HH.out); rfl; rfl; (repeat (first | exact .here | refine .there ?_)); (first | rfl | exact Arr.len _ | (simp; done)); rfl; (intro w_ hq_; (try simp only [List.set_cons_zero, List.set_cons_succ] at hq_); clear HH; have HH := hid hq_; clear hq_))
                      | ((with_reducible apply wpL_storeC (t := 82)); rfl; rfl; (exact kS82); (exact HH.out); (repeat (first | exact .here | refine .there ?_)); (first | rfl | exact Arr.len _ | (simp; done)); (first | rfl | (intro u_ hu_; simp only [List.mem_cons, List.not_mem_nil, or_false] at hu_; rcases hu_ with rfl | hu_; rfl) | exact byt_cell1 _ | exact cells_one _ | exact wrd_one _ | exact flat_cell1 _); (first | rfl | exact Arr.len _ | (simp; done)); rfl; (intro w_ hq_; (try simp only [List.set_cons_zero, List.set_cons_succ] at hq_); clear HH; have HH := hid hq_; clear hq_))
                      | ((with_reducible apply wpL_move); rfl; rfl)
                      | ((with_reducible apply wpL_assign); rfl; rfl)
                      | ((with_reducible apply wpL_pick); rfl; rfl; rfl)
                      | ((with_reducible apply wpL_not); rfl; rfl)
                      | ((with_reducible apply wpL_cmp (b := true)); rfl; rfl; rfl; (first | rfl | assumption | (simp only [cmpB, decide_eq_true_eq, decide_eq_false_iff_not, beq_iff_eq, bne_iff_ne, ne_eq, beq_eq_false_iff_ne, bne_eq_false_iff_eq, gt_iff_lt, ge_iff_le]; omega) | (simp; omega)); rfl)
                      | ((with_reducible apply wpL_cmp (b := false)); rfl; rfl; rfl; (first | rfl | assumption | (simp only [cmpB, decide_eq_true_eq, decide_eq_false_iff_not, beq_iff_eq, bne_iff_ne, ne_eq, beq_eq_false_iff_ne, bne_eq_false_iff_eq, gt_iff_lt, ge_iff_le]; omega) | (simp; omega)); rfl)
                      | ((with_reducible apply wpL_cmp); rfl; rfl; rfl; rfl; rfl)
                      | ((with_reducible apply wpL_arith); rfl; rfl; rfl; (exact IntWalk.i64_in _ (by (try simp only [arithI]); omega)); rfl)); (try simp only [arithI, Act.put, Act.eval, List.setIfInBounds_toArray, List.set_cons_succ, List.set_cons_zero, Array.getD_eq_getD_getElem?, List.getElem?_toArray, List.getElem?_cons_succ, List.getElem?_cons_zero, Option.getD_some])))
                obtain ⟨ad1, cc1, e⟩ := HH.out.sl2.some (by have := HKL.out; omega)
                cases e
                refine wp_region_holds (by kernel_rfl) (by kernel_rfl) HH.out ?_
                repeat ((first
                  | ((with_reducible apply wpQ_skip); rfl; skip)
                  | ((with_reducible apply wpQ_index (dst := some 78) kE46 (j := k)); rfl; rfl; rfl; (exact HKL.out); rfl)
                  | ((with_reducible apply wpQ_loadEl (dst := some 79) (v := y) kA34 (fun wq hwq => get_as (show Arrs wq (.slice (some ad1) l.length cap1) l from Holds.sl2 hwq) HKL.out (HY.out _))); rfl; rfl)
                  | ((with_reducible apply wpQ_neqA (b := b1) (p := x) (q := y) kR34); rfl; rfl; (exact HB1.out); rfl)
                  | ((with_reducible apply wpQ_nilCheck); rfl; rfl)
                  | ((with_reducible apply wpQ_fieldAddr); (first | exact kF79_0 | exact kF79_1 | exact kF79_2 | exact kF82_0 | exact kF82_1 | exact kF82_2); rfl; rfl)
                  | ((with_reducible apply wpQ_load1 (t := 3) kO3); rfl; (repeat (first | exact .here | refine .there ?_)); rfl; rfl)
                  | ((with_reducible apply wpQ_load1 (t := 30) kO30); rfl; (repeat (first | exact .here | refine .there ?_)); rfl; rfl)
                  | ((with_reducible apply wpQ_loadArr (t := 34) kA34); rfl; (repeat (first | exact .here | refine .there ?_)); rfl)
                  | ((with_reducible apply wpQ_loadArr (t := 41) kA41); rfl; (repeat (first | exact .here | refine .there ?_)); rfl)
                  | ((with_reducible apply wpQ_loadC (t := 80) kA80); rfl; (repeat (first | exact .here | refine .there ?_)); (first | rfl | exact Arr.len _ | (simp; done)); rfl)
                  | ((with_reducible apply wpQ_loadC (t := 82) kA82); rfl; (repeat (first | exact .here | refine .there ?_)); (first | rfl | exact Arr.len _ | (simp; done)); rfl)
                  | ((with_reducible apply wpQ_len (t := 30) Try.underlying30); rfl; rfl)
                  | ((with_reducible apply wpQ_len (t := 46) Try.underlying46); rfl; rfl)
                  | ((with_reducible apply wpQ_move); rfl; rfl)
                  | ((with_reducible apply wpQ_assign); rfl; rfl)
                  | ((with_reducible apply wpQ_pick); rfl; rfl; rfl)
                  | ((with_reducible apply wpQ_not); rfl; rfl)
                  | ((with_reducible apply wpQ_cmp (b := true)); rfl; rfl; rfl; (first | rfl | assumption | (simp only [cmpB, decide_eq_true_eq, decide_eq_false_iff_not, beq_iff_eq, bne_iff_ne, ne_eq, beq_eq_false_iff_ne, bne_eq_false_iff_eq, gt_iff_lt, ge_iff_le]; omega) | (simp; omega)); rfl)
                  | ((with_reducible apply wpQ_cmp (b := false)); rfl; rfl; rfl; (first | rfl | assumption | (simp only [cmpB, decide_eq_true_eq, decide_eq_false_iff_not, beq_iff_eq, bne_iff_ne, ne_eq, beq_eq_false_iff_ne, bne_eq_false_iff_eq, gt_iff_lt, ge_iff_le]; omega) | (simp; omega)); rfl)
                  | ((with_reducible apply wpQ_cmp); rfl; rfl; rfl; rfl; rfl)
                  | ((with_reducible apply wpQ_arith); rfl; rfl; rfl; (exact IntWalk.i64_in _ (by (try simp only [arithI]); omega)); rfl)); (try simp only [if_true, if_false, Bool.false_eq_true, arithI, Act.put, Act.eval, List.setIfInBounds_toArray, List.set_cons_succ, List.set_cons_zero, Array.getD_eq_getD_getElem?, List.getElem?_toArray, List.getElem?_cons_succ, List.getElem?_cons_zero, Option.getD_some]))
                refine wpQuiet_nil ?_
                intro wq hq_
                have HQ := hid hq_
                clear hq_
                clear HH
                have HH := HQ
                clear HQ
                go_wp2_with (first
                  | ((first
                      | ((with_reducible apply wpL_skip); rfl; skip)
                      | ((with_reducible apply wpL_nilCheck); rfl; rfl)
                      | ((with_reducible apply wpL_fieldAddr); (first | exact kF79_0 | exact kF79_1 | exact kF79_2 | exact kF82_0 | exact kF82_1 | exact kF82_2); rfl; rfl)
                      | ((with_reducible apply wpL_load1 (t := 3) kO3 HH.out); rfl; (repeat (first | exact .here | refine .there ?_)); rfl; rfl)
                      | ((with_reducible apply wpL_load1 (t := 30) kO30 HH.out); rfl; (repeat (first | exact .here | refine .there ?_)); rfl; rfl)
                      | ((with_reducible apply wpL_loadArr (t := 34) kA34 HH.out); rfl; (repeat (first | exact .here | refine .there ?_)); rfl)
                      | ((with_reducible apply wpL_loadArr (t := 41) kA41 HH.out); rfl; (repeat (first | exact .here | refine .there ?_)); rfl)
                      | ((with_reducible apply wpL_loadC (t := 80) kA80 HH.out); rfl; (repeat (first | exact .here | refine .there ?_)); (first | rfl | exact Arr.len _ | (simp; done)); rfl)
                      | ((with_reducible apply wpL_loadC (t := 82) kA82 HH.out); rfl; (repeat (first | exact .here | refine .there ?_)); (first | rfl | exact Arr.len _ | (simp; done)); rfl)
                      | ((with_reducible apply wpL_len (t := 30) Try.underlying30); rfl; rfl)
                      | ((with_reducible apply wpL_len (t := 46) Try.underlying46); rfl; rfl)
                      | ((with_reducible apply wpL_boxC (dst := some 4)); rfl; (exact HH.out); rfl; (intro g4_ w_ hq_; (try simp only [List.set_cons_zero, List.set_cons_succ] at hq_); clear HH; have HH := hid hq_; clear hq_))
                      | ((with_reducible apply wpL_allocC (dst := some 8) kZ41 HH.out); rfl; (intro g8_ w_ hq_; (try simp only [List.set_cons_zero, List.set_cons_succ] at hq_); clear HH; have HH := hid hq_; clear hq_))
                      | ((with_reducible apply wpL_allocC (dst := some 11) kZ34 HH.out); rfl; (intro g11_ w_ hq_; (try simp only [List.set_cons_zero, List.set_cons_succ] at hq_); clear HH; have HH := hid hq_; clear hq_))
                      | ((with_reducible apply wpL_allocC (dst := some 18) kZ82 HH.out); rfl; (intro g18_ w_ hq_; (try simp only [List.set_cons_zero, List.set_cons_succ] at hq_); clear HH; have HH := hid hq_; clear hq_))
                      | ((with_reducible apply wpL_storeArr (t := 34) kS34 HH.out); rfl; rfl; (repeat (first | exact .here | refine .there ?_)); (first | rfl | exact Arr.len _ | (simp; done)); rfl; (intro w_ hq_; (try simp only [List.set_cons_zero, List.set_cons_succ] at hq_); clear HH; have HH := hid hq_; clear hq_))
                      | ((with_reducible apply wpL_storeArr (t := 41) kS41 HH.out); rfl; rfl; (repeat (first | exact .here | refine .there ?_)); (first | rfl | exact Arr.len _ | (simp; done)); rfl; (intro w_ hq_; (try simp only [List.set_cons_zero, List.set_cons_succ] at hq_); clear HH; have HH := hid hq_; clear hq_))
                      | ((with_reducible apply wpL_storeC (t := 82)); rfl; rfl; (exact kS82); (exact HH.out); (repeat (first | exact .here | refine .there ?_)); (first | rfl | exact Arr.len _ | (simp; done)); (first | rfl | (intro u_ hu_; simp only [List.mem_cons, List.not_mem_nil, or_false] at hu_; rcases hu_ with rfl | hu_; rfl) | exact byt_cell1 _ | exact cells_one _ | exact wrd_one _ | exact flat_cell1 _); (first | rfl | exact Arr.len _ | (simp; done)); rfl; (intro w_ hq_; (try simp only [List.set_cons_zero, List.set_cons_succ] at hq_); clear HH; have HH := hid hq_; clear hq_))
                      | ((with_reducible apply wpL_move); rfl; rfl)
                      | ((with_reducible apply wpL_assign); rfl; rfl)
                      | ((with_reducible apply wpL_pick); rfl; rfl; rfl)
                      | ((with_reducible apply wpL_not); rfl; rfl)
                      | ((with_reducible apply wpL_cmp (b := true)); rfl; rfl; rfl; (first | rfl | assumption | (simp only [cmpB, decide_eq_true_eq, decide_eq_false_iff_not, beq_iff_eq, bne_iff_ne, ne_eq, beq_eq_false_iff_ne, bne_eq_false_iff_eq, gt_iff_lt, ge_iff_le]; omega) | (simp; omega)); rfl)
                      | ((with_reducible apply wpL_cmp (b := false)); rfl; rfl; rfl; (first | rfl | assumption | (simp only [cmpB, decide_eq_true_eq, decide_eq_false_iff_not, beq_iff_eq, bne_iff_ne, ne_eq, beq_eq_false_iff_ne, bne_eq_false_iff_eq, gt_iff_lt, ge_iff_le]; omega) | (simp; omega)); rfl)
                      | ((with_reducible apply wpL_cmp); rfl; rfl; rfl; rfl; rfl)
                      | ((with_reducible apply wpL_arith); rfl; rfl; rfl; (exact IntWalk.i64_in _ (by (try simp only [arithI]); omega)); rfl)); (try simp only [arithI, Act.put, Act.eval, List.setIfInBounds_toArray, List.set_cons_succ, List.set_cons_zero, Array.getD_eq_getD_getElem?, List.getElem?_toArray, List.getElem?_cons_succ, List.getElem?_cons_zero, Option.getD_some])))
                try simp only [Bool.not_true]
                go_loopw [16, 17] (FRel w x y p p [(g11_, objC r.cells 34), (g8_, objC x.cells 41), (g4_, objC (claimCs (k : Int) x (.slice ap pp.length cp)) 79)] [rowA 34 ao3 cap3 pp, rowA 34 ao2 cap2 p, rowA 34 (some ad1) cap1 l]) (fun _ kv _ => p.length - (intOf kv).toNat)
                case atStart => exact ⟨0, b1, Nat.zero_le _, rfl, rfl, by rw [← HB1.out, Bool.not_eq_false', beq_iff_eq]; exact ⟨fun h => ⟨h, rfl⟩, fun h => h.1⟩, HH.out⟩
                case round =>
                  obtain ⟨j, ch, hj, rfl, rfl, hch, hr⟩ := hrel
                  clear HH
                  have HH := hid hr
                  have HCH := hid hch
                  clear hr hch
                  by_cases hlt : j < p.length
                  · have HJQ := hid hlt
                    have HJP := hid (show j < p.length from Nat.lt_of_lt_of_eq hlt (show p.length = p.length from HLQ.out))
                    have hstep : SameTake p p (j + 1) ↔ (SameTake p p j ∧ p.getD j Nd0 = p.getD j Nd0) := take_step HJQ.out HJP.out
                    cases ch with
                    | true =>
                      have HCH2 := hid (show (true = false ↔ x = y ∧ SameTake p p (j + 1)) from ⟨fun h => (by cases h), fun h => HCH.out.2 ⟨h.1, (hstep.1 h.2).1⟩⟩)
                      clear hstep
                      go_wp2_with (first
                        | ((first
                            | ((with_reducible apply wpL_skip); rfl; skip)
                            | ((with_reducible apply wpL_nilCheck); rfl; rfl)
                            | ((with_reducible apply wpL_fieldAddr); (first | exact kF79_0 | exact kF79_1 | exact kF79_2 | exact kF82_0 | exact kF82_1 | exact kF82_2); rfl; rfl)
                            | ((with_reducible apply wpL_load1 (t := 3) kO3 HH.out); rfl; (repeat (first | exact .here | refine .there ?_)); rfl; rfl)
                            | ((with_reducible apply wpL_load1 (t := 30) kO30 HH.out); rfl; (repeat (first | exact .here | refine .there ?_)); rfl; rfl)
                            | ((with_reducible apply wpL_loadArr (t := 34) kA34 HH.out); rfl; (repeat (first | exact .here | refine .there ?_)); rfl)
                            | ((with_reducible apply wpL_loadArr (t := 41) kA41 HH.out); rfl; (repeat (first | exact .here | refine .there ?_)); rfl)
                            | ((with_reducible apply wpL_loadC (t := 80) kA80 HH.out); rfl; (repeat (first | exact .here | refine .there ?_)); (first | rfl | exact Arr.len _ | (simp; done)); rfl)
                            | ((with_reducible apply wpL_loadC (t := 82) kA82 HH.out); rfl; (repeat (first | exact .here | refine .there ?_)); (first | rfl | exact Arr.len _ | (simp; done)); rfl)
                            | ((with_reducible apply wpL_len (t := 30) Try.underlying30); rfl; rfl)
                            | ((with_reducible apply wpL_len (t := 46) Try.underlying46); rfl; rfl)
                            | ((with_reducible apply wpL_boxC (dst := some 4)); rfl; (exact HH.out); rfl; (intro g4_ w_ hq_; (try simp only [List.set_cons_zero, List.set_cons_succ] at hq_); clear HH; have HH := hid hq_; clear hq_))
                            | ((with_reducible apply wpL_allocC (dst := some 8) kZ41 HH.out); rfl; (intro g8_ w_ hq_; (try simp only [List.set_cons_zero, List.set_cons_succ] at hq_); clear HH; have HH := hid hq_; clear hq_))
                            | ((with_reducible apply wpL_allocC (dst := some 11) kZ34 HH.out); rfl; (intro g11_ w_ hq_; (try simp only [List.set_cons_zero, List.set_cons_succ] at hq_); clear HH; have HH := hid hq_; clear hq_))
                            | ((with_reducible apply wpL_allocC (dst := some 18) kZ82 HH.out); rfl; (intro g18_ w_ hq_; (try simp only [List.set_cons_zero, List.set_cons_succ] at hq_); clear HH; have HH := hid hq_; clear hq_))
                            | ((with_reducible apply wpL_storeArr (t := 34) kS34 HH.out); rfl; rfl; (repeat (first | exact .here | refine .there ?_)); (first | rfl | exact Arr.len _ | (simp; done)); rfl; (intro w_ hq_; (try simp only [List.set_cons_zero, List.set_cons_succ] at hq_); clear HH; have HH := hid hq_; clear hq_))
                            | ((with_reducible apply wpL_storeArr (t := 41) kS41 HH.out); rfl; rfl; (repeat (first | exact .here | refine .there ?_)); (first | rfl | exact Arr.len _ | (simp; done)); rfl; (intro w_ hq_; (try simp only [List.set_cons_zero, List.set_cons_succ] at hq_); clear HH; have HH := hid hq_; clear hq_))
                            | ((with_reducible apply wpL_storeC (t := 82)); rfl; rfl; (exact kS82); (exact HH.out); (repeat (first | exact .here | refine .there ?_)); (first | rfl | exact Arr.len _ | (simp; done)); (first | rfl | (intro u_ hu_; simp only [List.mem_cons, List.not_mem_nil, or_false] at hu_; rcases hu_ with rfl | hu_; rfl) | exact byt_cell1 _ | exact cells_one _ | exact wrd_one _ | exact flat_cell1 _); (first | rfl | exact Arr.len _ | (simp; done)); rfl; (intro w_ hq_; (try simp only [List.set_cons_zero, List.set_cons_succ] at hq_); clear HH; have HH := hid hq_; clear hq_))
                            | ((with_reducible apply wpL_move); rfl; rfl)
                            | ((with_reducible apply wpL_assign); rfl; rfl)
                            | ((with_reducible apply wpL_pick); rfl; rfl; rfl)
                            | ((with_reducible apply wpL_not); rfl; rfl)
                            | ((with_reducible apply wpL_cmp (b := true)); rfl; rfl; rfl; (first | rfl | assumption | (simp only [cmpB, decide_eq_true_eq, decide_eq_false_iff_not, beq_iff_eq, bne_iff_ne, ne_eq, beq_eq_false_iff_ne, bne_eq_false_iff_eq, gt_iff_lt, ge_iff_le]; omega) | (simp; omega)); rfl)
                            | ((with_reducible apply wpL_cmp (b := false)); rfl; rfl; rfl; (first | rfl | assumption | (simp only [cmpB, decide_eq_true_eq, decide_eq_false_iff_not, beq_iff_eq, bne_iff_ne, ne_eq, beq_eq_false_iff_ne, bne_eq_false_iff_eq, gt_iff_lt, ge_iff_le]; omega) | (simp; omega)); rfl)
                            | ((with_reducible apply wpL_cmp); rfl; rfl; rfl; rfl; rfl)
                            | ((with_reducible apply wpL_arith); rfl; rfl; rfl; (exact IntWalk.i64_in _ (by (try simp only [arithI]); omega)); rfl)); (try simp only [arithI, Act.put, Act.eval, List.setIfInBounds_toArray, List.set_cons_succ, List.set_cons_zero, Array.getD_eq_getD_getElem?, List.getElem?_toArray, List.getElem?_cons_succ, List.getElem?_cons_zero, Option.getD_some])))
                      refine wp_region_holds (by kernel_rfl) (by kernel_rfl) HH.out ?_
                      repeat ((first
                        | ((with_reducible apply wpQ_skip); rfl; skip)
                        | ((with_reducible apply wpQ_nilCheck); rfl; rfl)
                        | ((with_reducible apply wpQ_fieldAddr); (first | exact kF79_0 | exact kF79_1 | exact kF79_2 | exact kF82_0 | exact kF82_1 | exact kF82_2); rfl; rfl)
                        | ((with_reducible apply wpQ_load1 (t := 3) kO3); rfl; (repeat (first | exact .here | refine .there ?_)); rfl; rfl)
                        | ((with_reducible apply wpQ_load1 (t := 30) kO30); rfl; (repeat (first | exact .here | refine .there ?_)); rfl; rfl)
                        | ((with_reducible apply wpQ_loadArr (t := 34) kA34); rfl; (repeat (first | exact .here | refine .there ?_)); rfl)
                        | ((with_reducible apply wpQ_loadArr (t := 41) kA41); rfl; (repeat (first | exact .here | refine .there ?_)); rfl)
                        | ((with_reducible apply wpQ_loadC (t := 80) kA80); rfl; (repeat (first | exact .here | refine .there ?_)); (first | rfl | exact Arr.len _ | (simp; done)); rfl)
                        | ((with_reducible apply wpQ_loadC (t := 82) kA82); rfl; (repeat (first | exact .here | refine .there ?_)); (first | rfl | exact Arr.len _ | (simp; done)); rfl)
                        | ((with_reducible apply wpQ_len (t := 30) Try.underlying30); rfl; rfl)
                        | ((with_reducible apply wpQ_len (t := 46) Try.underlying46); rfl; rfl)
                        | ((with_reducible apply wpQ_move); rfl; rfl)
                        | ((with_reducible apply wpQ_assign); rfl; rfl)
                        | ((with_reducible apply wpQ_pick); rfl; rfl; rfl)
                        | ((with_reducible apply wpQ_not); rfl; rfl)
                        | ((with_reducible apply wpQ_cmp (b := true)); rfl; rfl; rfl; (first | rfl | assumption | (simp only [cmpB, decide_eq_true_eq, decide_eq_false_iff_not, beq_iff_eq, bne_iff_ne, ne_eq, beq_eq_false_iff_ne, bne_eq_false_iff_eq, gt_iff_lt, ge_iff_le]; omega) | (simp; omega)); rfl)
                        | ((with_reducible apply wpQ_cmp (b := false)); rfl; rfl; rfl; (first | rfl | assumption | (simp only [cmpB, decide_eq_true_eq, decide_eq_false_iff_not, beq_iff_eq, bne_iff_ne, ne_eq, beq_eq_false_iff_ne, bne_eq_false_iff_eq, gt_iff_lt, ge_iff_le]; omega) | (simp; omega)); rfl)
                        | ((with_reducible apply wpQ_cmp); rfl; rfl; rfl; rfl; rfl)
                        | ((with_reducible apply wpQ_arith); rfl; rfl; rfl; (exact IntWalk.i64_in _ (by (try simp only [arithI]); omega)); rfl)); (try simp only [if_true, if_false, Bool.false_eq_true, arithI, Act.put, Act.eval, List.setIfInBounds_toArray, List.set_cons_succ, List.set_cons_zero, Array.getD_eq_getD_getElem?, List.getElem?_toArray, List.getElem?_cons_succ, List.getElem?_cons_zero, Option.getD_some]))
                      refine wpQuiet_nil ?_
                      intro wq hq_
                      have HQ := hid hq_
                      clear hq_
                      clear HH
                      have HH := HQ
                      clear HQ
                      go_wp2_with (first
                        | ((first
                            | ((with_reducible apply wpL_skip); rfl; skip)
                            | ((with_reducible apply wpL_nilCheck); rfl; rfl)
                            | ((with_reducible apply wpL_fieldAddr); (first | exact kF79_0 | exact kF79_1 | exact kF79_2 | exact kF82_0 | exact kF82_1 | exact kF82_2); rfl; rfl)
                            | ((with_reducible apply wpL_load1 (t := 3) kO3 HH.out); rfl; (repeat (first | exact .here | refine .there ?_)); rfl; rfl)
                            | ((with_reducible apply wpL_load1 (t := 30) kO30 HH.out); rfl; (repeat (first | exact .here | refine .there ?_)); rfl; rfl)
                            | ((with_reducible apply wpL_loadArr (t := 34) kA34 HH.out); rfl; (repeat (first | exact .here | refine .there ?_)); rfl)
                            | ((with_reducible apply wpL_loadArr (t := 41) kA41 HH.out); rfl; (repeat (first | exact .here | refine .there ?_)); rfl)
                            | ((with_reducible apply wpL_loadC (t := 80) kA80 HH.out); rfl; (repeat (first | exact .here | refine .there ?_)); (first | rfl | exact Arr.len _ | (simp; done)); rfl)
                            | ((with_reducible apply wpL_loadC (t := 82) kA82 HH.out); rfl; (repeat (first | exact .here | refine .there ?_)); (first | rfl | exact Arr.len _ | (simp; done)); rfl)
                            | ((with_reducible apply wpL_len (t := 30) Try.underlying30); rfl; rfl)
                            | ((with_reducible apply wpL_len (t := 46) Try.underlying46); rfl; rfl)
                            | ((with_reducible apply wpL_boxC (dst := some 4)); rfl; (exact HH.out); rfl; (intro g4_ w_ hq_; (try simp only [List.set_cons_zero, List.set_cons_succ] at hq_); clear HH; have HH := hid hq_; clear hq_))
                            | ((with_reducible apply wpL_allocC (dst := some 8) kZ41 HH.out); rfl; (intro g8_ w_ hq_; (try simp only [List.set_cons_zero, List.set_cons_succ] at hq_); clear HH; have HH := hid hq_; clear hq_))
                            | ((with_reducible apply wpL_allocC (dst := some 11) kZ34 HH.out); rfl; (intro g11_ w_ hq_; (try simp only [List.set_cons_zero, List.set_cons_succ] at hq_); clear HH; have HH := hid hq_; clear hq_))
                            | ((with_reducible apply wpL_allocC (dst := some 18) kZ82 HH.out); rfl; (intro g18_ w_ hq_; (try simp only [List.set_cons_zero, List.set_cons_succ] at hq_); clear HH; have HH := hid hq_; clear hq_))
                            | ((with_reducible apply wpL_storeArr (t := 34) kS34 HH.out); rfl; rfl; (repeat (first | exact .here | refine .there ?_)); (first | rfl | exact Arr.len _ | (simp; done)); rfl; (intro w_ hq_; (try simp only [List.set_cons_zero, List.set_cons_succ] at hq_); clear HH; have HH := hid hq_; clear hq_))
                            | ((with_reducible apply wpL_storeArr (t := 41) kS41 HH.out); rfl; rfl; (repeat (first | exact .here | refine .there ?_)); (first | rfl | exact Arr.len _ | (simp; done)); rfl; (intro w_ hq_; (try simp only [List.set_cons_zero, List.set_cons_succ] at hq_); clear HH; have HH := hid hq_; clear hq_))
                            | ((with_reducible apply wpL_storeC (t := 82)); rfl; rfl; (exact kS82); (exact HH.out); (repeat (first | exact .here | refine .there ?_)); (first | rfl | exact Arr.len _ | (simp; done)); (first | rfl | (intro u_ hu_; simp only [List.mem_cons, List.not_mem_nil, or_false] at hu_; rcases hu_ with rfl | hu_; rfl) | exact byt_cell1 _ | exact cells_one _ | exact wrd_one _ | exact flat_cell1 _); (first | rfl | exact Arr.len _ | (simp; done)); rfl; (intro w_ hq_; (try simp only [List.set_cons_zero, List.set_cons_succ] at hq_); clear HH; have HH := hid hq_; clear hq_))
                            | ((with_reducible apply wpL_move); rfl; rfl)
                            | ((with_reducible apply wpL_assign); rfl; rfl)
                            | ((with_reducible apply wpL_pick); rfl; rfl; rfl)
                            | ((with_reducible apply wpL_not); rfl; rfl)
                            | ((with_reducible apply wpL_cmp (b := true)); rfl; rfl; rfl; (first | rfl | assumption | (simp only [cmpB, decide_eq_true_eq, decide_eq_false_iff_not, beq_iff_eq, bne_iff_ne, ne_eq, beq_eq_false_iff_ne, bne_eq_false_iff_eq, gt_iff_lt, ge_iff_le]; omega) | (simp; omega)); rfl)
                            | ((with_reducible apply wpL_cmp (b := false)); rfl; rfl; rfl; (first | rfl | assumption | (simp only [cmpB, decide_eq_true_eq, decide_eq_false_iff_not, beq_iff_eq, bne_iff_ne, ne_eq, beq_eq_false_iff_ne, bne_eq_false_iff_eq, gt_iff_lt, ge_iff_le]; omega) | (simp; omega)); rfl)
                            | ((with_reducible apply wpL_cmp); rfl; rfl; rfl; rfl; rfl)
                            | ((with_reducible apply wpL_arith); rfl; rfl; rfl; (exact IntWalk.i64_in _ (by (try simp only [arithI]); omega)); rfl)); (try simp only [arithI, Act.put, Act.eval, List.setIfInBounds_toArray, List.set_cons_succ, List.set_cons_zero, Array.getD_eq_getD_getElem?, List.getElem?_toArray, List.getElem?_cons_succ, List.getElem?_cons_zero, Option.getD_some])))
                      go_roundw
                      case rel => exact ⟨j + 1, true, by omega, by go_num, rfl, HCH2.out, HH.out⟩
                      case measure => simp [intOf]; omega
                    | false =>
                      obtain ⟨qj, hqj⟩ : ∃ qj, p.getD j Nd0 = qj := ⟨_, rfl⟩
                      obtain ⟨pj, hpj⟩ : ∃ pj, p.getD j Nd0 = pj := ⟨_, rfl⟩
                      obtain ⟨b2, hb2⟩ : ∃ b2, (!(qj == pj)) = b2 := ⟨_, rfl⟩
                      have hstep2 : SameTake p p (j + 1) ↔ (SameTake p p j ∧ qj = pj) := by rw [← hqj, ← hpj]; exact hstep
                      have HB2 := hid hb2
                      have HQJ := hid (show ∀ pf : j < p.length, p[j]'pf = qj from fun pf => by rw [← hqj]; simp [pf])
                      have HPJ := hid (show ∀ pf : j < p.length, p[j]'pf = pj from fun pf => by rw [← hpj]; simp [pf])
                      have HCH2 := hid (show (b2 = false ↔ x = y ∧ SameTake p p (j + 1)) by
                        rw [hstep2, ← hb2, Bool.not_eq_false', beq_iff_eq]
                        exact ⟨fun h => ⟨(HCH.out.1 rfl).1, (HCH.out.1 rfl).2, h⟩, fun h => h.2.2⟩)
                      clear hstep hstep2 hqj hpj hb2
                      obtain ⟨adq, ccq, e⟩ := HH.out.sl1.some (by omega)
                      cases e
                      obtain ⟨adp, ccp, e⟩ := HH.out.sl1.some (by have := HJP.out; omega)
                      cases e
                      go_wp2_with (first
                        | ((first
                            | ((with_reducible apply wpL_skip); rfl; skip)
                            | ((with_reducible apply wpL_nilCheck); rfl; rfl)
                            | ((with_reducible apply wpL_fieldAddr); (first | exact kF79_0 | exact kF79_1 | exact kF79_2 | exact kF82_0 | exact kF82_1 | exact kF82_2); rfl; rfl)
                            | ((with_reducible apply wpL_load1 (t := 3) kO3 HH.out); rfl; (repeat (first | exact .here | refine .there ?_)); rfl; rfl)
                            | ((with_reducible apply wpL_load1 (t := 30) kO30 HH.out); rfl; (repeat (first | exact .here | refine .there ?_)); rfl; rfl)
                            | ((with_reducible apply wpL_loadArr (t := 34) kA34 HH.out); rfl; (repeat (first | exact .here | refine .there ?_)); rfl)
                            | ((with_reducible apply wpL_loadArr (t := 41) kA41 HH.out); rfl; (repeat (first | exact .here | refine .there ?_)); rfl)
                            | ((with_reducible apply wpL_loadC (t := 80) kA80 HH.out); rfl; (repeat (first | exact .here | refine .there ?_)); (first | rfl | exact Arr.len _ | (simp; done)); rfl)
                            | ((with_reducible apply wpL_loadC (t := 82) kA82 HH.out); rfl; (repeat (first | exact .here | refine .there ?_)); (first | rfl | exact Arr.len _ | (simp; done)); rfl)
                            | ((with_reducible apply wpL_len (t := 30) Try.underlying30); rfl; rfl)
                            | ((with_reducible apply wpL_len (t := 46) Try.underlying46); rfl; rfl)
                            | ((with_reducible apply wpL_boxC (dst := some 4)); rfl; (exact HH.out); rfl; (intro g4_ w_ hq_; (try simp only [List.set_cons_zero, List.set_cons_succ] at hq_); clear HH; have HH := hid hq_; clear hq_))
                            | ((with_reducible apply wpL_allocC (dst := some 8) kZ41 HH.out); rfl; (intro g8_ w_ hq_; (try simp only [List.set_cons_zero, List.set_cons_succ] at hq_); clear HH; have HH := hid hq_; clear hq_))
                            | ((with_reducible apply wpL_allocC (dst := some 11) kZ34 HH.out); rfl; (intro g11_ w_ hq_; (try simp only [List.set_cons_zero, List.set_cons_succ] at hq_); clear HH; have HH := hid hq_; clear hq_))
                            | ((with_reducible apply wpL_allocC (dst := some 18) kZ82 HH.out); rfl; (intro g18_ w_ hq_; (try simp only [List.set_cons_zero, List.set_cons_succ] at hq_); clear HH; have HH := hid hq_; clear hq_))
                            | ((with_reducible apply wpL_storeArr (t := 34) kS34 HH.out); rfl; rfl; (repeat (first | exact .here | refine .there ?_)); (first | rfl | exact Arr.len _ | (simp; done)); rfl; (intro w_ hq_; (try simp only [List.set_cons_zero, List.set_cons_succ] at hq_); clear HH; have HH := hid hq_; clear hq_))
                            | ((with_reducible apply wpL_storeArr (t := 41) kS41 HH.out); rfl; rfl; (repeat (first | exact .here | refine .there ?_)); (first | rfl | exact Arr.len _ | (simp; done)); rfl; (intro w_ hq_; (try simp only [List.set_cons_zero, List.set_cons_succ] at hq_); clear HH; have HH := hid hq_; clear hq_))
                            | ((with_reducible apply wpL_storeC (t := 82)); rfl; rfl; (exact kS82); (exact HH.out); (repeat (first | exact .here | refine .there ?_)); (first | rfl | exact Arr.len _ | (simp; done)); (first | rfl | (intro u_ hu_; simp only [List.mem_cons, List.not_mem_nil, or_false] at hu_; rcases hu_ with rfl | hu_; rfl) | exact byt_cell1 _ | exact cells_one _ | exact wrd_one _ | exact flat_cell1 _); (first | rfl | exact Arr.len _ | (simp; done)); rfl; (intro w_ hq_; (try simp only [List.set_cons_zero, List.set_cons_succ] at hq_); clear HH; have HH := hid hq_; clear hq_))
                            | ((with_reducible apply wpL_move); rfl; rfl)
                            | ((with_reducible apply wpL_assign); rfl; rfl)
                            | ((with_reducible apply wpL_pick); rfl; rfl; rfl)
                            | ((with_reducible apply wpL_not); rfl; rfl)
                            | ((with_reducible apply wpL_cmp (b := true)); rfl; rfl; rfl; (first | rfl | assumption | (simp only [cmpB, decide_eq_true_eq, decide_eq_false_iff_not, beq_iff_eq, bne_iff_ne, ne_eq, beq_eq_false_iff_ne, bne_eq_false_iff_eq, gt_iff_lt, ge_iff_le]; omega) | (simp; omega)); rfl)
                            | ((with_reducible apply wpL_cmp (b := false)); rfl; rfl; rfl; (first | rfl | assumption | (simp only [cmpB, decide_eq_true_eq, decide_eq_false_iff_not, beq_iff_eq, bne_iff_ne, ne_eq, beq_eq_false_iff_ne, bne_eq_false_iff_eq, gt_iff_lt, ge_iff_le]; omega) | (simp; omega)); rfl)
                            | ((with_reducible apply wpL_cmp); rfl; rfl; rfl; rfl; rfl)
                            | ((with_reducible apply wpL_arith); rfl; rfl; rfl; (exact IntWalk.i64_in _ (by (try simp only [arithI]); omega)); rfl)); (try simp only [arithI, Act.put, Act.eval, List.setIfInBounds_toArray, List.set_cons_succ, List.set_cons_zero, Array.getD_eq_getD_getElem?, List.getElem?_toArray, List.getElem?_cons_succ, List.getElem?_cons_zero, Option.getD_some])))
                      refine wp_region_holds (by kernel_rfl) (by kernel_rfl) HH.out ?_
                      repeat ((first
                        | ((with_reducible apply wpQ_skip); rfl; skip)
                        | ((with_reducible apply wpQ_index (dst := some 91) kE46 (j := j)); rfl; rfl; rfl; (exact HJQ.out); rfl)
                        | ((with_reducible apply wpQ_index (dst := some 95) kE46 (j := j)); rfl; rfl; rfl; (exact HJP.out); rfl)
                        | ((with_reducible apply wpQ_loadEl (dst := some 92) (v := qj) kA34 (fun wq hwq => get_as (Holds.sl1 hwq) HJQ.out (HQJ.out _))); rfl; rfl)
                        | ((with_reducible apply wpQ_loadEl (dst := some 96) (v := pj) kA34 (fun wq hwq => get_as (Holds.sl1 hwq) HJP.out (HPJ.out _))); rfl; rfl)
                        | ((with_reducible apply wpQ_neqA (b := b2) (p := qj) (q := pj) kR34); rfl; rfl; (exact HB2.out); rfl)
                        | ((with_reducible apply wpQ_nilCheck); rfl; rfl)
                        | ((with_reducible apply wpQ_fieldAddr); (first | exact kF79_0 | exact kF79_1 | exact kF79_2 | exact kF82_0 | exact kF82_1 | exact kF82_2); rfl; rfl)
                        | ((with_reducible apply wpQ_load1 (t := 3) kO3); rfl; (repeat (first | exact .here | refine .there ?_)); rfl; rfl)
                        | ((with_reducible apply wpQ_load1 (t := 30) kO30); rfl; (repeat (first | exact .here | refine .there ?_)); rfl; rfl)
                        | ((with_reducible apply wpQ_loadArr (t := 34) kA34); rfl; (repeat (first | exact .here | refine .there ?_)); rfl)
                        | ((with_reducible apply wpQ_loadArr (t := 41) kA41); rfl; (repeat (first | exact .here | refine .there ?_)); rfl)
                        | ((with_reducible apply wpQ_loadC (t := 80) kA80); rfl; (repeat (first | exact .here | refine .there ?_)); (first | rfl | exact Arr.len _ | (simp; done)); rfl)
                        | ((with_reducible apply wpQ_loadC (t := 82) kA82); rfl; (repeat (first | exact .here | refine .there ?_)); (first | rfl | exact Arr.len _ | (simp; done)); rfl)
                        | ((with_reducible apply wpQ_len (t := 30) Try.underlying30); rfl; rfl)
                        | ((with_reducible apply wpQ_len (t := 46) Try.underlying46); rfl; rfl)
                        | ((with_reducible apply wpQ_move); rfl; rfl)
                        | ((with_reducible apply wpQ_assign); rfl; rfl)
                        | ((with_reducible apply wpQ_pick); rfl; rfl; rfl)
                        | ((with_reducible apply wpQ_not); rfl; rfl)
                        | ((with_reducible apply wpQ_cmp (b := true)); rfl; rfl; rfl; (first | rfl | assumption | (simp only [cmpB, decide_eq_true_eq, decide_eq_false_iff_not, beq_iff_eq, bne_iff_ne, ne_eq, beq_eq_false_iff_ne, bne_eq_false_iff_eq, gt_iff_lt, ge_iff_le]; omega) | (simp; omega)); rfl)
                        | ((with_reducible apply wpQ_cmp (b := false)); rfl; rfl; rfl; (first | rfl | assumption | (simp only [cmpB, decide_eq_true_eq, decide_eq_false_iff_not, beq_iff_eq, bne_iff_ne, ne_eq, beq_eq_false_iff_ne, bne_eq_false_iff_eq, gt_iff_lt, ge_iff_le]; omega) | (simp; omega)); rfl)
                        | ((with_reducible apply wpQ_cmp); rfl; rfl; rfl; rfl; rfl)
                        | ((with_reducible apply wpQ_arith); rfl; rfl; rfl; (exact IntWalk.i64_in _ (by (try simp only [arithI]); omega)); rfl)); (try simp only [if_true, if_false, Bool.false_eq_true, arithI, Act.put, Act.eval, List.setIfInBounds_toArray, List.set_cons_succ, List.set_cons_zero, Array.getD_eq_getD_getElem?, List.getElem?_toArray, List.getElem?_cons_succ, List.getElem?_cons_zero, Option.getD_some]))
                      refine wpQuiet_nil ?_
                      intro wq hq_
                      have HQ := hid hq_
                      clear hq_
                      clear HH
                      have HH := HQ
                      clear HQ
                      go_wp2_with (first
                        | ((first
                            | ((with_reducible apply wpL_skip); rfl; skip)
                            | ((with_reducible apply wpL_nilCheck); rfl; rfl)
                            | ((with_reducible apply wpL_fieldAddr); (first | exact kF79_0 | exact kF79_1 | exact kF79_2 | exact kF82_0 | exact kF82_1 | exact kF82_2); rfl; rfl)
                            | ((with_reducible apply wpL_load1 (t := 3) kO3 HH.out); rfl; (repeat (first | exact .here | refine .there ?_)); rfl; rfl)
                            | ((with_reducible apply wpL_load1 (t := 30) kO30 HH.out); rfl; (repeat (first | exact .here | refine .there ?_)); rfl; rfl)
                            | ((with_reducible apply wpL_loadArr (t := 34) kA34 HH.out); rfl; (repeat (first | exact .here | refine .there ?_)); rfl)
                            | ((with_reducible apply wpL_loadArr (t := 41) kA41 HH.out); rfl; (repeat (first | exact .here | refine .there ?_)); rfl)
                            | ((with_reducible apply wpL_loadC (t := 80) kA80 HH.out); rfl; (repeat (first | exact .here | refine .there ?_)); (first | rfl | exact Arr.len _ | (simp; done)); rfl)
                            | ((with_reducible apply wpL_loadC (t := 82) kA82 HH.out); rfl; (repeat (first | exact .here | refine .there ?_)); (first | rfl | exact Arr.len _ | (simp; done)); rfl)
                            | ((with_reducible apply wpL_len (t := 30) Try.underlying30); rfl; rfl)
                            | ((with_reducible apply wpL_len (t := 46) Try.underlying46); rfl; rfl)
                            | ((with_reducible apply wpL_boxC (dst := some 4)); rfl; (exact HH.out); rfl; (intro g4_ w_ hq_; (try simp only [List.set_cons_zero, List.set_cons_succ] at hq_); clear HH; have HH := hid hq_; clear hq_))
                            | ((with_reducible apply wpL_allocC (dst := some 8) kZ41 HH.out); rfl; (intro g8_ w_ hq_; (try simp only [List.set_cons_zero, List.set_cons_succ] at hq_); clear HH; have HH := hid hq_; clear hq_))
                            | ((with_reducible apply wpL_allocC (dst := some 11) kZ34 HH.out); rfl; (intro g11_ w_ hq_; (try simp only [List.set_cons_zero, List.set_cons_succ] at hq_); clear HH; have HH := hid hq_; clear hq_))
                            | ((with_reducible apply wpL_allocC (dst := some 18) kZ82 HH.out); rfl; (intro g18_ w_ hq_; (try simp only [List.set_cons_zero, List.set_cons_succ] at hq_); clear HH; have HH := hid hq_; clear hq_))
                            | ((with_reducible apply wpL_storeArr (t := 34) kS34 HH.out); rfl; rfl; (repeat (first | exact .here | refine .there ?_)); (first | rfl | exact Arr.len _ | (simp; done)); rfl; (intro w_ hq_; (try simp only [List.set_cons_zero, List.set_cons_succ] at hq_); clear HH; have HH := hid hq_; clear hq_))
                            | ((with_reducible apply wpL_storeArr (t := 41) kS41 HH.out); rfl; rfl; (repeat (first | exact .here | refine .there ?_)); (first | rfl | exact Arr.len _ | (simp; done)); rfl; (intro w_ hq_; (try simp only [List.set_cons_zero, List.set_cons_succ] at hq_); clear HH; have HH := hid hq_; clear hq_))
                            | ((with_reducible apply wpL_storeC (t := 82)); rfl; rfl; (exact kS82); (exact HH.out); (repeat (first | exact .here | refine .there ?_)); (first | rfl | exact Arr.len _ | (simp; done)); (first | rfl | (intro u_ hu_; simp only [List.mem_cons, List.not_mem_nil, or_false] at hu_; rcases hu_ with rfl | hu_; rfl) | exact byt_cell1 _ | exact cells_one _ | exact wrd_one _ | exact flat_cell1 _); (first | rfl | exact Arr.len _ | (simp; done)); rfl; (intro w_ hq_; (try simp only [List.set_cons_zero, List.set_cons_succ] at hq_); clear HH; have HH := hid hq_; clear hq_))
                            | ((with_reducible apply wpL_move); rfl; rfl)
                            | ((with_reducible apply wpL_assign); rfl; rfl)
                            | ((with_reducible apply wpL_pick); rfl; rfl; rfl)
                            | ((with_reducible apply wpL_not); rfl; rfl)
                            | ((with_reducible apply wpL_cmp (b := true)); rfl; rfl; rfl; (first | rfl | assumption | (simp only [cmpB, decide_eq_true_eq, decide_eq_false_iff_not, beq_iff_eq, bne_iff_ne, ne_eq, beq_eq_false_iff_ne, bne_eq_false_iff_eq, gt_iff_lt, ge_iff_le]; omega) | (simp; omega)); rfl)
                            | ((with_reducible apply wpL_cmp (b := false)); rfl; rfl; rfl; (first | rfl | assumption | (simp only [cmpB, decide_eq_true_eq, decide_eq_false_iff_not, beq_iff_eq, bne_iff_ne, ne_eq, beq_eq_false_iff_ne, bne_eq_false_iff_eq, gt_iff_lt, ge_iff_le]; omega) | (simp; omega)); rfl)
                            | ((with_reducible apply wpL_cmp); rfl; rfl; rfl; rfl; rfl)
                            | ((with_reducible apply wpL_arith); rfl; rfl; rfl; (exact IntWalk.i64_in _ (by (try simp only [arithI]); omega)); rfl)); (try simp only [arithI, Act.put, Act.eval, List.setIfInBounds_toArray, List.set_cons_succ, List.set_cons_zero, Array.getD_eq_getD_getElem?, List.getElem?_toArray, List.getElem?_cons_succ, List.getElem?_cons_zero, Option.getD_some])))
                      go_roundw
                      case rel => exact ⟨j + 1, b2, by omega, by go_num, rfl, HCH2.out, HH.out⟩
                      case measure => simp [intOf]; omega
                  · obtain rfl : j = p.length := by omega
                    have HCE := hid (show ch = false ↔ x = y ∧ SameList p p by
                      have h := HCH.out
                      have e : SameTake p p p.length ↔ SameList p p := by
                        have e1 : p.take p.length = p := List.take_length
                        have e2 : p.take p.length = p := List.take_of_length_le (Nat.le_of_eq (show p.length = p.length from HLQ.out).symm)
                        unfold SameTake SameList
                        simp only [e1, e2]
                      rw [e] at h
                      exact h)
                    cases ch with
                    | false =>
                      have HO := hid (HCV.out.trans (HFG.out.1 (HCE.out.1 rfl)))
                      have HTUP := hid (show (Value.tuple #[.agg (twoCs 0 zP zP).toArray, .bool (decide ((0 : Int) < 0))]) = .tuple #[.agg (twoCs 0 zP zP).toArray, .bool false] from rfl)
                      go_wp2_with (first
                        | ((first
                            | ((with_reducible apply wpL_skip); rfl; skip)
                            | ((with_reducible apply wpL_nilCheck); rfl; rfl)
                            | ((with_reducible apply wpL_fieldAddr); (first | exact kF79_0 | exact kF79_1 | exact kF79_2 | exact kF82_0 | exact kF82_1 | exact kF82_2); rfl; rfl)
                            | ((with_reducible apply wpL_load1 (t := 3) kO3 HH.out); rfl; (repeat (first | exact .here | refine .there ?_)); rfl; rfl)
                            | ((with_reducible apply wpL_load1 (t := 30) kO30 HH.out); rfl; (repeat (first | exact .here | refine .there ?_)); rfl; rfl)
                            | ((with_reducible apply wpL_loadArr (t := 34) kA34 HH.out); rfl; (repeat (first | exact .here | refine .there ?_)); rfl)
                            | ((with_reducible apply wpL_loadArr (t := 41) kA41 HH.out); rfl; (repeat (first | exact .here | refine .there ?_)); rfl)
                            | ((with_reducible apply wpL_loadC (t := 80) kA80 HH.out); rfl; (repeat (first | exact .here | refine .there ?_)); (first | rfl | exact Arr.len _ | (simp; done)); rfl)
                            | ((with_reducible apply wpL_loadC (t := 82) kA82 HH.out); rfl; (repeat (first | exact .here | refine .there ?_)); (first | rfl | exact Arr.len _ | (simp; done)); rfl)
                            | ((with_reducible apply wpL_len (t := 30) Try.underlying30); rfl; rfl)
                            | ((with_reducible apply wpL_len (t := 46) Try.underlying46); rfl; rfl)
                            | ((with_reducible apply wpL_boxC (dst := some 4)); rfl; (exact HH.out); rfl; (intro g4_ w_ hq_; (try simp only [List.set_cons_zero, List.set_cons_succ] at hq_); clear HH; have HH := hid hq_; clear hq_))
                            | ((with_reducible apply wpL_allocC (dst := some 8) kZ41 HH.out); rfl; (intro g8_ w_ hq_; (try simp only [List.set_cons_zero, List.set_cons_succ] at hq_); clear HH; have HH := hid hq_; clear hq_))
                            | ((with_reducible apply wpL_allocC (dst := some 11) kZ34 HH.out); rfl; (intro g11_ w_ hq_; (try simp only [List.set_cons_zero, List.set_cons_succ] at hq_); clear HH; have HH := hid hq_; clear hq_))
                            | ((with_reducible apply wpL_allocC (dst := some 18) kZ82 HH.out); rfl; (intro g18_ w_ hq_; (try simp only [List.set_cons_zero, List.set_cons_succ] at hq_); clear HH; have HH := hid hq_; clear hq_))
                            | ((with_reducible apply wpL_storeArr (t := 34) kS34 HH.out); rfl; rfl; (repeat (first | exact .here | refine .there ?_)); (first | rfl | exact Arr.len _ | (simp; done)); rfl; (intro w_ hq_; (try simp only [List.set_cons_zero, List.set_cons_succ] at hq_); clear HH; have HH := hid hq_; clear hq_))
                            | ((with_reducible apply wpL_storeArr (t := 41) kS41 HH.out); rfl; rfl; (repeat (first | exact .here | refine .there ?_)); (first | rfl | exact Arr.len _ | (simp; done)); rfl; (intro w_ hq_; (try simp only [List.set_cons_zero, List.set_cons_succ] at hq_); clear HH; have HH := hid hq_; clear hq_))
                            | ((with_reducible apply wpL_storeC (t := 82)); rfl; rfl; (exact kS82); (exact HH.out); (repeat (first | exact .here | refine .there ?_)); (first | rfl | exact Arr.len _ | (simp; done)); (first | rfl | (intro u_ hu_; simp only [List.mem_cons, List.not_mem_nil, or_false] at hu_; rcases hu_ with rfl | hu_; rfl) | exact byt_cell1 _ | exact cells_one _ | exact wrd_one _ | exact flat_cell1 _); (first | rfl | exact Arr.len _ | (simp; done)); rfl; (intro w_ hq_; (try simp only [List.set_cons_zero, List.set_cons_succ] at hq_); clear HH; have HH := hid hq_; clear hq_))
                            | ((with_reducible apply wpL_move); rfl; rfl)
                            | ((with_reducible apply wpL_assign); rfl; rfl)
                            | ((with_reducible apply wpL_pick); rfl; rfl; rfl)
                            | ((with_reducible apply wpL_not); rfl; rfl)
                            | ((with_reducible apply wpL_cmp (b := true)); rfl; rfl; rfl; (first | rfl | assumption | (simp only [cmpB, decide_eq_true_eq, decide_eq_false_iff_not, beq_iff_eq, bne_iff_ne, ne_eq, beq_eq_false_iff_ne, bne_eq_false_iff_eq, gt_iff_lt, ge_iff_le]; omega) | (simp; omega)); rfl)
                            | ((with_reducible apply wpL_cmp (b := false)); rfl; rfl; rfl; (first | rfl | assumption | (simp only [cmpB, decide_eq_true_eq, decide_eq_false_iff_not, beq_iff_eq, bne_iff_ne, ne_eq, beq_eq_false_iff_ne, bne_eq_false_iff_eq, gt_iff_lt, ge_iff_le]; omega) | (simp; omega)); rfl)
                            | ((with_reducible apply wpL_cmp); rfl; rfl; rfl; rfl; rfl)
                            | ((with_reducible apply wpL_arith); rfl; rfl; rfl; (exact IntWalk.i64_in _ (by (try simp only [arithI]); omega)); rfl)); (try simp only [arithI, Act.put, Act.eval, List.setIfInBounds_toArray, List.set_cons_succ, List.set_cons_zero, Array.getD_eq_getD_getElem?, List.getElem?_toArray, List.getElem?_cons_succ, List.getElem?_cons_zero, Option.getD_some])))
                      refine wp_region_F [(fun u_ => u_ = (.int .i64 (k : Int))), (fun u_ => u_ = (.slice (some ad1) l.length cap1)), (fun u_ => u_ = (.int .i64 (k : Int))), (fun u_ => u_ = (.pointer (some (ad1.add (k * 16))))), (fun u_ => u_ = y.val), (fun u_ => u_ = (.slice ao2 p.length cap2)), (fun u_ => u_ = x.val), (fun u_ => u_ = (.slice ao2 p.length cap2)), (fun u_ => u_ = (.tuple #[.agg (twoCs 0 zP zP).toArray, .bool false])), (fun u_ => u_ = (.tuple #[.agg (twoCs 0 zP zP).toArray, .bool false])), (fun u_ => u_ = (.agg (twoCs 0 zP zP).toArray)), (fun u_ => u_ = (.bool false)), (isPtr), (fun _ => True), (fun u_ => u_ = (.bool false))] (AJ w [] [(g11_, objC r.cells 34), (g8_, objC x.cells 41), (g4_, objC (claimCs (k : Int) x (.slice ap pp.length cp)) 79)] (fun _ _ => [rowA 34 ao3 cap3 pp, rowA 34 ao2 cap2 p, rowA 34 (some ad1) cap1 l]) 12 13 18 82 (twoCs 0 zP zP) (twoCs 0 zP zP)) (by kernel_rfl) (by kernel_rfl) rfl (HH.out.drew) ?_ ?_
                      · refine eachD_cons ?_ (eachD_cons ?_ (eachD_cons ?_ (eachD_cons ?_ (eachD_cons ?_ (eachD_cons ?_ (eachD_cons ?_ (eachD_cons ?_ (eachD_cons ?_ (eachD_cons ?_ (eachD_cons ?_ (eachD_cons ?_ (eachD_cons ?_ (eachD_cons ?_ (eachD_cons ?_ (eachD_nil)))))))))))))))
                        · intro li_ a_ w1 hc hi hJ hF hS
                          have e7 : a_.eval (.tmp 7) = (.int .i64 (k : Int)) := (hF.2.2 7 (notDst_of (by kernel_rfl))).trans rfl
                          refine wantD (by rfl) ?_
                          exact opF_val rfl (ex_move rfl w1) hJ e7
                        · intro li_ a_ w1 hc hi hJ hF hS
                          have e10 : a_.eval (.tmp 10) = (.slice (some ad1) l.length cap1) := (hF.2.2 10 (notDst_of (by kernel_rfl))).trans rfl
                          refine wantD (by rfl) ?_
                          exact opF_val rfl (ex_move rfl w1) hJ e10
                        · intro li_ a_ w1 hc hi hJ hF hS
                          have e7 : a_.eval (.tmp 7) = (.int .i64 (k : Int)) := (hF.2.2 7 (notDst_of (by kernel_rfl))).trans rfl
                          refine wantD (by rfl) ?_
                          exact opF_val rfl (ex_move rfl w1) hJ e7
                        · intro li_ a_ w1 hc hi hJ hF hS
                          have l1 : li_ 1 = true := (hS ⟨1, .data⟩ (by simp) rfl).1
                          have l2 : li_ 2 = true := (hS ⟨2, .data⟩ (by simp) rfl).1
                          have e101 : a_.eval (.tmp 101) = (.slice (some ad1) l.length cap1) := (hS ⟨1, .data⟩ (by simp) rfl).2 _ rfl
                          have e102 : a_.eval (.tmp 102) = (.int .i64 (k : Int)) := (hS ⟨2, .data⟩ (by simp) rfl).2 _ rfl
                          refine wantD (by rfl) ?_
                          exact opF_val rfl (ex_index kE46 (j := k) e101 e102 rfl HKL.out w1) hJ rfl
                        · intro li_ a_ w1 hc hi hJ hF hS
                          have l3 : li_ 3 = true := (hS ⟨3, .data⟩ (by simp) rfl).1
                          have e103 : a_.eval (.tmp 103) = (.pointer (some (ad1.add (k * 16)))) := (hS ⟨3, .data⟩ (by simp) rfl).2 _ rfl
                          refine wantD (by rfl) ?_
                          exact opF_val rfl (ex_load_agg (t := 34) (sz := 16) e103 Try.underlying34 rfl kS34 (Arr.len y) (get_as (show Arrs w1 (.slice (some ad1) l.length cap1) l from Holds.sl2 hJ) HKL.out (HY.out _))) hJ rfl
                        · intro li_ a_ w1 hc hi hJ hF hS
                          have e13 : a_.eval (.tmp 13) = (.slice ao2 p.length cap2) := (hF.2.2 13 (notDst_of (by kernel_rfl))).trans rfl
                          refine wantD (by rfl) ?_
                          exact opF_val rfl (ex_move rfl w1) hJ e13
                        · intro li_ a_ w1 hc hi hJ hF hS
                          have e8 : a_.eval (.tmp 8) = (.pointer (some ⟨g8_, 0, none⟩)) := (hF.2.2 8 (notDst_of (by kernel_rfl))).trans rfl
                          refine wantD (by rfl) ?_
                          exact opF_val rfl (ex_loadPart (cs := x.cells) (e := 41) kA41 hJ e8 (Own.opt (.there .here)) (by rw [List.drop_zero]; exact List.take_of_length_le (by rw [Arr.len]; exact Nat.le_refl _)) (Arr.len _)) hJ rfl
                        · intro li_ a_ w1 hc hi hJ hF hS
                          have e15 : a_.eval (.tmp 15) = (.slice ao2 p.length cap2) := (hF.2.2 15 (notDst_of (by kernel_rfl))).trans rfl
                          refine wantD (by rfl) ?_
                          exact opF_val rfl (ex_move rfl w1) hJ e15
                        · intro li_ a_ w1 hc hi hJ hF hS
                          have l0 : li_ 0 = true := (hS ⟨0, .data⟩ (by simp) rfl).1
                          have l4 : li_ 4 = true := (hS ⟨4, .data⟩ (by simp) rfl).1
                          have l5 : li_ 5 = true := (hS ⟨5, .data⟩ (by simp) rfl).1
                          have l6 : li_ 6 = true := (hS ⟨6, .data⟩ (by simp) rfl).1
                          have l7 : li_ 7 = true := (hS ⟨7, .data⟩ (by simp) rfl).1
                          have e100 : a_.eval (.tmp 100) = (.int .i64 (k : Int)) := (hS ⟨0, .data⟩ (by simp) rfl).2 _ rfl
                          have e104 : a_.eval (.tmp 104) = y.val := (hS ⟨4, .data⟩ (by simp) rfl).2 _ rfl
                          have e105 : a_.eval (.tmp 105) = (.slice ao2 p.length cap2) := (hS ⟨5, .data⟩ (by simp) rfl).2 _ rfl
                          have e106 : a_.eval (.tmp 106) = x.val := (hS ⟨6, .data⟩ (by simp) rfl).2 _ rfl
                          have e107 : a_.eval (.tmp 107) = (.slice ao2 p.length cap2) := (hS ⟨7, .data⟩ (by simp) rfl).2 _ rfl
                          refine wantD (by rfl) ?_
                          exact opF_call (args := #[.int .i64 (k : Int), y.val, .slice ao2 p.length cap2, x.val, .slice ao2 p.length cap2]) kB48 (by show #[a_.eval (.tmp 100), a_.eval (.tmp 104), a_.eval (.tmp 105), a_.eval (.tmp 106), a_.eval (.tmp 107)] = _; rw [e100, e104, e105, e106, e107]) ((coll_any w1 _ _ (k : Int) y x p p (show Arrs w1 (.slice ao2 p.length cap2) p from Holds.sl1 hJ) (show Arrs w1 (.slice ao2 p.length cap2) p from Holds.sl1 hJ) HPL.out HQL10.out).mono fun e w' ⟨he, hb⟩ => ⟨_, he, AJ.grow hJ hb, by rw [HO.out]; exact HTUP.out⟩)
                        · intro li_ a_ w1 hc hi hJ hF hS
                          have l8 : li_ 8 = true := (hS ⟨8, .data⟩ (by simp) rfl).1
                          have e108 : a_.eval (.tmp 108) = (.tuple #[.agg (twoCs 0 zP zP).toArray, .bool false]) := (hS ⟨8, .data⟩ (by simp) rfl).2 _ rfl
                          refine wantD (by rfl) ?_
                          exact opF_val rfl (ex_move rfl w1) hJ e108
                        · intro li_ a_ w1 hc hi hJ hF hS
                          have l9 : li_ 9 = true := (hS ⟨9, .data⟩ (by simp) rfl).1
                          have e99 : a_.eval (.tmp 99) = (.tuple #[.agg (twoCs 0 zP zP).toArray, .bool false]) := (hS ⟨9, .data⟩ (by simp) rfl).2 _ rfl
                          refine wantD (by rfl) ?_
                          exact opF_val rfl (ex_extract e99 rfl w1) hJ rfl
                        · intro li_ a_ w1 hc hi hJ hF hS
                          have l9 : li_ 9 = true := (hS ⟨9, .data⟩ (by simp) rfl).1
                          have e99 : a_.eval (.tmp 99) = (.tuple #[.agg (twoCs 0 zP zP).toArray, .bool false]) := (hS ⟨9, .data⟩ (by simp) rfl).2 _ rfl
                          refine wantD (by rfl) ?_
                          exact opF_val rfl (ex_extract e99 rfl w1) hJ rfl
                        · intro li_ a_ w1 hc hi hJ hF hS
                          refine wantD (by rfl) ?_
                          exact aj_alloc kZ82b hJ hi (hc.off (j := 13) (by kernel_rfl) hi) (by decide) (fun _ => rfl)
                        · intro li_ a_ w1 hc hi hJ hF hS
                          have l12 : li_ 12 = true := (hS ⟨12, .data⟩ (by simp) rfl).1
                          have l10 : li_ 10 = true := (hS ⟨10, .data⟩ (by simp) rfl).1
                          have l8 : li_ 8 = true := (hS ⟨8, .chain⟩ (by simp) rfl).1
                          have l0 : li_ 0 = true := (hS ⟨0, .phase⟩ (by simp) rfl).1
                          have l1 : li_ 1 = true := (hS ⟨1, .phase⟩ (by simp) rfl).1
                          have l2 : li_ 2 = true := (hS ⟨2, .phase⟩ (by simp) rfl).1
                          have l3 : li_ 3 = true := (hS ⟨3, .phase⟩ (by simp) rfl).1
                          have l4 : li_ 4 = true := (hS ⟨4, .phase⟩ (by simp) rfl).1
                          have l5 : li_ 5 = true := (hS ⟨5, .phase⟩ (by simp) rfl).1
                          have l6 : li_ 6 = true := (hS ⟨6, .phase⟩ (by simp) rfl).1
                          have l7 : li_ 7 = true := (hS ⟨7, .phase⟩ (by simp) rfl).1
                          have l9 : li_ 9 = true := (hS ⟨9, .phase⟩ (by simp) rfl).1
                          have e18 : (isPtr) (a_.eval (.tmp 18)) := (hS ⟨12, .data⟩ (by simp) rfl).2 _ rfl
                          have e109 : a_.eval (.tmp 109) = (.agg (twoCs 0 zP zP).toArray) := (hS ⟨10, .data⟩ (by simp) rfl).2 _ rfl
                          refine wantD (by rfl) ?_
                          exact aj_store kS82 (two_len _ _ _) (two_len _ _ _) (two_one _ _ _) hJ l12 hi (by decide) e18 e109 rfl
                        · intro li_ a_ w1 hc hi hJ hF hS
                          have l11 : li_ 11 = true := (hS ⟨11, .data⟩ (by simp) rfl).1
                          have l13 : li_ 13 = true := (hS ⟨13, .chain⟩ (by simp) rfl).1
                          have l0 : li_ 0 = true := (hS ⟨0, .phase⟩ (by simp) rfl).1
                          have l1 : li_ 1 = true := (hS ⟨1, .phase⟩ (by simp) rfl).1
                          have l2 : li_ 2 = true := (hS ⟨2, .phase⟩ (by simp) rfl).1
                          have l3 : li_ 3 = true := (hS ⟨3, .phase⟩ (by simp) rfl).1
                          have l4 : li_ 4 = true := (hS ⟨4, .phase⟩ (by simp) rfl).1
                          have l5 : li_ 5 = true := (hS ⟨5, .phase⟩ (by simp) rfl).1
                          have l6 : li_ 6 = true := (hS ⟨6, .phase⟩ (by simp) rfl).1
                          have l7 : li_ 7 = true := (hS ⟨7, .phase⟩ (by simp) rfl).1
                          have l8 : li_ 8 = true := (hS ⟨8, .phase⟩ (by simp) rfl).1
                          have l9 : li_ 9 = true := (hS ⟨9, .phase⟩ (by simp) rfl).1
                          have l10 : li_ 10 = true := (hS ⟨10, .phase⟩ (by simp) rfl).1
                          have l12 : li_ 12 = true := (hS ⟨12, .phase⟩ (by simp) rfl).1
                          have e110 : a_.eval (.tmp 110) = (.bool false) := (hS ⟨11, .data⟩ (by simp) rfl).2 _ rfl
                          refine wantD (by rfl) ?_
                          exact opF_val rfl (ex_assign rfl w1) hJ e110
                      intro v0_ h0_ v1_ h1_ v2_ h2_ v3_ h3_ v4_ h4_ v5_ h5_ v6_ h6_ v7_ h7_ v8_ h8_ v9_ h9_ v10_ h10_ v11_ h11_ v12_ h12_ v13_ h13_ v14_ h14_
                      intro wq hq_
                      have q_ : v0_ = (.int .i64 (k : Int)) := h0_; clear h0_; subst q_
                      have q_ : v1_ = (.slice (some ad1) l.length cap1) := h1_; clear h1_; subst q_
                      have q_ : v2_ = (.int .i64 (k : Int)) := h2_; clear h2_; subst q_
                      have q_ : v3_ = (.pointer (some (ad1.add (k * 16)))) := h3_; clear h3_; subst q_
                      have q_ : v4_ = y.val := h4_; clear h4_; subst q_
                      have q_ : v5_ = (.slice ao2 p.length cap2) := h5_; clear h5_; subst q_
                      have q_ : v6_ = x.val := h6_; clear h6_; subst q_
                      have q_ : v7_ = (.slice ao2 p.length cap2) := h7_; clear h7_; subst q_
                      have q_ : v8_ = (.tuple #[.agg (twoCs 0 zP zP).toArray, .bool false]) := h8_; clear h8_; subst q_
                      have q_ : v9_ = (.tuple #[.agg (twoCs 0 zP zP).toArray, .bool false]) := h9_; clear h9_; subst q_
                      have q_ : v10_ = (.agg (twoCs 0 zP zP).toArray) := h10_; clear h10_; subst q_
                      have q_ : v11_ = (.bool false) := h11_; clear h11_; subst q_
                      obtain ⟨g18_, rfl⟩ := h12_
                      clear h13_
                      have q_ : v14_ = (.bool false) := h14_; clear h14_; subst q_
                      have HQ := hid hq_; clear hq_
                      simp only [putsD, Act.put, List.setIfInBounds_toArray, List.set_cons_succ, List.set_cons_zero]
                      have hq2_ : Holds w [] [(g18_, objC (twoCs 0 zP zP) 82), (g11_, objC r.cells 34), (g8_, objC x.cells 41), (g4_, objC (claimCs (k : Int) x (.slice ap pp.length cp)) 79)] [rowA 34 ao3 cap3 pp, rowA 34 ao2 cap2 p, rowA 34 (some ad1) cap1 l] wq := HQ.out
                      clear HH HQ
                      have HH := hid hq2_
                      clear hq2_
                      go_wp2_with (first
                        | ((first
                            | ((with_reducible apply wpL_skip); rfl; skip)
                            | ((with_reducible apply wpList_build (parts := #[]) (v := .agg (twoCs 0 zP zP).toArray)); (exact BZ82); rfl)
                            | ((with_reducible apply wpL_eq82); rfl; rfl; rfl)
                            | ((with_reducible apply wpL_nilCheck); rfl; rfl)
                            | ((with_reducible apply wpL_fieldAddr); (first | exact kF79_0 | exact kF79_1 | exact kF79_2 | exact kF82_0 | exact kF82_1 | exact kF82_2); rfl; rfl)
                            | ((with_reducible apply wpL_load1 (t := 3) kO3 HH.out); rfl; (repeat (first | exact .here | refine .there ?_)); rfl; rfl)
                            | ((with_reducible apply wpL_load1 (t := 30) kO30 HH.out); rfl; (repeat (first | exact .here | refine .there ?_)); rfl; rfl)
                            | ((with_reducible apply wpL_loadArr (t := 34) kA34 HH.out); rfl; (repeat (first | exact .here | refine .there ?_)); rfl)
                            | ((with_reducible apply wpL_loadArr (t := 41) kA41 HH.out); rfl; (repeat (first | exact .here | refine .there ?_)); rfl)
                            | ((with_reducible apply wpL_loadC (t := 80) kA80 HH.out); rfl; (repeat (first | exact .here | refine .there ?_)); (first | rfl | exact Arr.len _ | (simp; done)); rfl)
                            | ((with_reducible apply wpL_loadC (t := 82) kA82 HH.out); rfl; (repeat (first | exact .here | refine .there ?_)); (first | rfl | exact Arr.len _ | (simp; done)); rfl)
                            | ((with_reducible apply wpL_len (t := 30) Try.underlying30); rfl; rfl)
                            | ((with_reducible apply wpL_len (t := 46) Try.underlying46); rfl; rfl)
                            | ((with_reducible apply wpL_boxC (dst := some 4)); rfl; (exact HH.out); rfl; (intro g4_ w_ hq_; (try simp only [List.set_cons_zero, List.set_cons_succ] at hq_); clear HH; have HH := hid hq_; clear hq_))
                            | ((with_reducible apply wpL_allocC (dst := some 8) kZ41 HH.out); rfl; (intro g8_ w_ hq_; (try simp only [List.set_cons_zero, List.set_cons_succ] at hq_); clear HH; have HH := hid hq_; clear hq_))
                            | ((with_reducible apply wpL_allocC (dst := some 11) kZ34 HH.out); rfl; (intro g11_ w_ hq_; (try simp only [List.set_cons_zero, List.set_cons_succ] at hq_); clear HH; have HH := hid hq_; clear hq_))
                            | ((with_reducible apply wpL_allocC (dst := some 18) kZ82 HH.out); rfl; (intro g18_ w_ hq_; (try simp only [List.set_cons_zero, List.set_cons_succ] at hq_); clear HH; have HH := hid hq_; clear hq_))
                            | ((with_reducible apply wpL_storeArr (t := 34) kS34 HH.out); rfl; rfl; (repeat (first | exact .here | refine .there ?_)); (first | rfl | exact Arr.len _ | (simp; done)); rfl; (intro w_ hq_; (try simp only [List.set_cons_zero, List.set_cons_succ] at hq_); clear HH; have HH := hid hq_; clear hq_))
                            | ((with_reducible apply wpL_storeArr (t := 41) kS41 HH.out); rfl; rfl; (repeat (first | exact .here | refine .there ?_)); (first | rfl | exact Arr.len _ | (simp; done)); rfl; (intro w_ hq_; (try simp only [List.set_cons_zero, List.set_cons_succ] at hq_); clear HH; have HH := hid hq_; clear hq_))
                            | ((with_reducible apply wpL_storeC (t := 82)); rfl; rfl; (exact kS82); (exact HH.out); (repeat (first | exact .here | refine .there ?_)); (first | rfl | exact Arr.len _ | (simp; done)); (first | rfl | (intro u_ hu_; simp only [List.mem_cons, List.not_mem_nil, or_false] at hu_; rcases hu_ with rfl | hu_; rfl) | exact byt_cell1 _ | exact cells_one _ | exact wrd_one _ | exact flat_cell1 _); (first | rfl | exact Arr.len _ | (simp; done)); rfl; (intro w_ hq_; (try simp only [List.set_cons_zero, List.set_cons_succ] at hq_); clear HH; have HH := hid hq_; clear hq_))
                            | ((with_reducible apply wpL_move); rfl; rfl)
                            | ((with_reducible apply wpL_assign); rfl; rfl)
                            | ((with_reducible apply wpL_pick); rfl; rfl; rfl)
                            | ((with_reducible apply wpL_not); rfl; rfl)
                            | ((with_reducible apply wpL_cmp (b := true)); rfl; rfl; rfl; (first | rfl | assumption | (simp only [cmpB, decide_eq_true_eq, decide_eq_false_iff_not, beq_iff_eq, bne_iff_ne, ne_eq, beq_eq_false_iff_ne, bne_eq_false_iff_eq, gt_iff_lt, ge_iff_le]; omega) | (simp; omega)); rfl)
                            | ((with_reducible apply wpL_cmp (b := false)); rfl; rfl; rfl; (first | rfl | assumption | (simp only [cmpB, decide_eq_true_eq, decide_eq_false_iff_not, beq_iff_eq, bne_iff_ne, ne_eq, beq_eq_false_iff_ne, bne_eq_false_iff_eq, gt_iff_lt, ge_iff_le]; omega) | (simp; omega)); rfl)
                            | ((with_reducible apply wpL_cmp); rfl; rfl; rfl; rfl; rfl)
                            | ((with_reducible apply wpL_arith); rfl; rfl; rfl; (exact IntWalk.i64_in _ (by (try simp only [arithI]); omega)); rfl)); (try simp only [arithI, Act.put, Act.eval, List.setIfInBounds_toArray, List.set_cons_succ, List.set_cons_zero, Array.getD_eq_getD_getElem?, List.getElem?_toArray, List.getElem?_cons_succ, List.getElem?_cons_zero, Option.getD_some])))
                      go_ret
                      exact RetB.mk rfl HH.out.below
                    | true =>
                      obtain ⟨lv, A0, A1, B0, B1, ho, hlv, hab, hjn⟩ := HFG.out.2 (fun h => by have := HCE.out.2 h; cases this)
                      obtain ⟨A, hA⟩ : ∃ A, jn A0 A1 = A := ⟨_, rfl⟩
                      obtain ⟨B, hB⟩ : ∃ B, jn B0 B1 = B := ⟨_, rfl⟩
                      obtain ⟨d, hd⟩ : ∃ d, joinN lv A0 A1 = d := ⟨_, rfl⟩
                      rw [hA, hB] at ho hab
                      have HO := hid (HCV.out.trans ho)
                      have HA2 := hid (show ((twoCs lv A B).drop (0 + 1)).take 32 = (jn A0 A1).cells by rw [two_a, hA])
                      have HB2 := hid (show ((twoCs lv A B).drop (0 + 33)).take 32 = (jn B0 B1).cells by rw [two_b, hB])
                      have HAB := hid (show (!(A == B)) = true by rw [Bool.not_eq_true', beq_eq_false_iff_ne]; exact hab)
                      have HDA := hid hd
                      have HDB := hid (hjn.symm.trans hd)
                      have HTUP := hid (show (Value.tuple #[.agg (twoCs lv A B).toArray, .bool (decide (0 < lv))]) = .tuple #[.agg (twoCs lv A B).toArray, .bool true] by rw [decide_eq_true hlv])
                      clear ho hab hA hB hd hjn hlv
                      go_wp2_with (first
                        | ((first
                            | ((with_reducible apply wpL_skip); rfl; skip)
                            | ((with_reducible apply wpL_nilCheck); rfl; rfl)
                            | ((with_reducible apply wpL_fieldAddr); (first | exact kF79_0 | exact kF79_1 | exact kF79_2 | exact kF82_0 | exact kF82_1 | exact kF82_2); rfl; rfl)
                            | ((with_reducible apply wpL_load1 (t := 3) kO3 HH.out); rfl; (repeat (first | exact .here | refine .there ?_)); rfl; rfl)
                            | ((with_reducible apply wpL_load1 (t := 30) kO30 HH.out); rfl; (repeat (first | exact .here | refine .there ?_)); rfl; rfl)
                            | ((with_reducible apply wpL_loadArr (t := 34) kA34 HH.out); rfl; (repeat (first | exact .here | refine .there ?_)); rfl)
                            | ((with_reducible apply wpL_loadArr (t := 41) kA41 HH.out); rfl; (repeat (first | exact .here | refine .there ?_)); rfl)
                            | ((with_reducible apply wpL_loadC (t := 80) kA80 HH.out); rfl; (repeat (first | exact .here | refine .there ?_)); (first | rfl | exact Arr.len _ | (simp; done)); rfl)
                            | ((with_reducible apply wpL_loadC (t := 82) kA82 HH.out); rfl; (repeat (first | exact .here | refine .there ?_)); (first | rfl | exact Arr.len _ | (simp; done)); rfl)
                            | ((with_reducible apply wpL_len (t := 30) Try.underlying30); rfl; rfl)
                            | ((with_reducible apply wpL_len (t := 46) Try.underlying46); rfl; rfl)
                            | ((with_reducible apply wpL_boxC (dst := some 4)); rfl; (exact HH.out); rfl; (intro g4_ w_ hq_; (try simp only [List.set_cons_zero, List.set_cons_succ] at hq_); clear HH; have HH := hid hq_; clear hq_))
                            | ((with_reducible apply wpL_allocC (dst := some 8) kZ41 HH.out); rfl; (intro g8_ w_ hq_; (try simp only [List.set_cons_zero, List.set_cons_succ] at hq_); clear HH; have HH := hid hq_; clear hq_))
                            | ((with_reducible apply wpL_allocC (dst := some 11) kZ34 HH.out); rfl; (intro g11_ w_ hq_; (try simp only [List.set_cons_zero, List.set_cons_succ] at hq_); clear HH; have HH := hid hq_; clear hq_))
                            | ((with_reducible apply wpL_allocC (dst := some 18) kZ82 HH.out); rfl; (intro g18_ w_ hq_; (try simp only [List.set_cons_zero, List.set_cons_succ] at hq_); clear HH; have HH := hid hq_; clear hq_))
                            | ((with_reducible apply wpL_storeArr (t := 34) kS34 HH.out); rfl; rfl; (repeat (first | exact .here | refine .there ?_)); (first | rfl | exact Arr.len _ | (simp; done)); rfl; (intro w_ hq_; (try simp only [List.set_cons_zero, List.set_cons_succ] at hq_); clear HH; have HH := hid hq_; clear hq_))
                            | ((with_reducible apply wpL_storeArr (t := 41) kS41 HH.out); rfl; rfl; (repeat (first | exact .here | refine .there ?_)); (first | rfl | exact Arr.len _ | (simp; done)); rfl; (intro w_ hq_; (try simp only [List.set_cons_zero, List.set_cons_succ] at hq_); clear HH; have HH := hid hq_; clear hq_))
                            | ((with_reducible apply wpL_storeC (t := 82)); rfl; rfl; (exact kS82); (exact HH.out); (repeat (first | exact .here | refine .there ?_)); (first | rfl | exact Arr.len _ | (simp; done)); (first | rfl | (intro u_ hu_; simp only [List.mem_cons, List.not_mem_nil, or_false] at hu_; rcases hu_ with rfl | hu_; rfl) | exact byt_cell1 _ | exact cells_one _ | exact wrd_one _ | exact flat_cell1 _); (first | rfl | exact Arr.len _ | (simp; done)); rfl; (intro w_ hq_; (try simp only [List.set_cons_zero, List.set_cons_succ] at hq_); clear HH; have HH := hid hq_; clear hq_))
                            | ((with_reducible apply wpL_move); rfl; rfl)
                            | ((with_reducible apply wpL_assign); rfl; rfl)
                            | ((with_reducible apply wpL_pick); rfl; rfl; rfl)
                            | ((with_reducible apply wpL_not); rfl; rfl)
                            | ((with_reducible apply wpL_cmp (b := true)); rfl; rfl; rfl; (first | rfl | assumption | (simp only [cmpB, decide_eq_true_eq, decide_eq_false_iff_not, beq_iff_eq, bne_iff_ne, ne_eq, beq_eq_false_iff_ne, bne_eq_false_iff_eq, gt_iff_lt, ge_iff_le]; omega) | (simp; omega)); rfl)
                            | ((with_reducible apply wpL_cmp (b := false)); rfl; rfl; rfl; (first | rfl | assumption | (simp only [cmpB, decide_eq_true_eq, decide_eq_false_iff_not, beq_iff_eq, bne_iff_ne, ne_eq, beq_eq_false_iff_ne, bne_eq_false_iff_eq, gt_iff_lt, ge_iff_le]; omega) | (simp; omega)); rfl)
                            | ((with_reducible apply wpL_cmp); rfl; rfl; rfl; rfl; rfl)
                            | ((with_reducible apply wpL_arith); rfl; rfl; rfl; (exact IntWalk.i64_in _ (by (try simp only [arithI]); omega)); rfl)); (try simp only [arithI, Act.put, Act.eval, List.setIfInBounds_toArray, List.set_cons_succ, List.set_cons_zero, Array.getD_eq_getD_getElem?, List.getElem?_toArray, List.getElem?_cons_succ, List.getElem?_cons_zero, Option.getD_some])))
                      refine wp_region_F [(fun u_ => u_ = (.int .i64 (k : Int))), (fun u_ => u_ = (.slice (some ad1) l.length cap1)), (fun u_ => u_ = (.int .i64 (k : Int))), (fun u_ => u_ = (.pointer (some (ad1.add (k * 16))))), (fun u_ => u_ = y.val), (fun u_ => u_ = (.slice ao2 p.length cap2)), (fun u_ => u_ = x.val), (fun u_ => u_ = (.slice ao2 p.length cap2)), (fun u_ => u_ = (.tuple #[.agg (twoCs lv A B).toArray, .bool true])), (fun u_ => u_ = (.tuple #[.agg (twoCs lv A B).toArray, .bool true])), (fun u_ => u_ = (.agg (twoCs lv A B).toArray)), (fun u_ => u_ = (.bool true)), (isPtr), (fun _ => True), (fun u_ => u_ = (.bool true))] (AJ w [] [(g11_, objC r.cells 34), (g8_, objC x.cells 41), (g4_, objC (claimCs (k : Int) x (.slice ap pp.length cp)) 79)] (fun _ _ => [rowA 34 ao3 cap3 pp, rowA 34 ao2 cap2 p, rowA 34 (some ad1) cap1 l]) 12 13 18 82 (twoCs 0 zP zP) (twoCs lv A B)) (by kernel_rfl) (by kernel_rfl) rfl (HH.out.drew) ?_ ?_
                      · refine eachD_cons ?_ (eachD_cons ?_ (eachD_cons ?_ (eachD_cons ?_ (eachD_cons ?_ (eachD_cons ?_ (eachD_cons ?_ (eachD_cons ?_ (eachD_cons ?_ (eachD_cons ?_ (eachD_cons ?_ (eachD_cons ?_ (eachD_cons ?_ (eachD_cons ?_ (eachD_cons ?_ (eachD_nil)))))))))))))))
                        · intro li_ a_ w1 hc hi hJ hF hS
                          have e7 : a_.eval (.tmp 7) = (.int .i64 (k : Int)) := (hF.2.2 7 (notDst_of (by kernel_rfl))).trans rfl
                          refine wantD (by rfl) ?_
                          exact opF_val rfl (ex_move rfl w1) hJ e7
                        · intro li_ a_ w1 hc hi hJ hF hS
                          have e10 : a_.eval (.tmp 10) = (.slice (some ad1) l.length cap1) := (hF.2.2 10 (notDst_of (by kernel_rfl))).trans rfl
                          refine wantD (by rfl) ?_
                          exact opF_val rfl (ex_move rfl w1) hJ e10
                        · intro li_ a_ w1 hc hi hJ hF hS
                          have e7 : a_.eval (.tmp 7) = (.int .i64 (k : Int)) := (hF.2.2 7 (notDst_of (by kernel_rfl))).trans rfl
                          refine wantD (by rfl) ?_
                          exact opF_val rfl (ex_move rfl w1) hJ e7
                        · intro li_ a_ w1 hc hi hJ hF hS
                          have l1 : li_ 1 = true := (hS ⟨1, .data⟩ (by simp) rfl).1
                          have l2 : li_ 2 = true := (hS ⟨2, .data⟩ (by simp) rfl).1
                          have e101 : a_.eval (.tmp 101) = (.slice (some ad1) l.length cap1) := (hS ⟨1, .data⟩ (by simp) rfl).2 _ rfl
                          have e102 : a_.eval (.tmp 102) = (.int .i64 (k : Int)) := (hS ⟨2, .data⟩ (by simp) rfl).2 _ rfl
                          refine wantD (by rfl) ?_
                          exact opF_val rfl (ex_index kE46 (j := k) e101 e102 rfl HKL.out w1) hJ rfl
                        · intro li_ a_ w1 hc hi hJ hF hS
                          have l3 : li_ 3 = true := (hS ⟨3, .data⟩ (by simp) rfl).1
                          have e103 : a_.eval (.tmp 103) = (.pointer (some (ad1.add (k * 16)))) := (hS ⟨3, .data⟩ (by simp) rfl).2 _ rfl
                          refine wantD (by rfl) ?_
                          exact opF_val rfl (ex_load_agg (t := 34) (sz := 16) e103 Try.underlying34 rfl kS34 (Arr.len y) (get_as (show Arrs w1 (.slice (some ad1) l.length cap1) l from Holds.sl2 hJ) HKL.out (HY.out _))) hJ rfl
                        · intro li_ a_ w1 hc hi hJ hF hS
                          have e13 : a_.eval (.tmp 13) = (.slice ao2 p.length cap2) := (hF.2.2 13 (notDst_of (by kernel_rfl))).trans rfl
                          refine wantD (by rfl) ?_
                          exact opF_val rfl (ex_move rfl w1) hJ e13
                        · intro li_ a_ w1 hc hi hJ hF hS
                          have e8 : a_.eval (.tmp 8) = (.pointer (some ⟨g8_, 0, none⟩)) := (hF.2.2 8 (notDst_of (by kernel_rfl))).trans rfl
                          refine wantD (by rfl) ?_
                          exact opF_val rfl (ex_loadPart (cs := x.cells) (e := 41) kA41 hJ e8 (Own.opt (.there .here)) (by rw [List.drop_zero]; exact List.take_of_length_le (by rw [Arr.len]; exact Nat.le_refl _)) (Arr.len _)) hJ rfl
                        · intro li_ a_ w1 hc hi hJ hF hS
                          have e15 : a_.eval (.tmp 15) = (.slice ao2 p.length cap2) := (hF.2.2 15 (notDst_of (by kernel_rfl))).trans rfl
                          refine wantD (by rfl) ?_
                          exact opF_val rfl (ex_move rfl w1) hJ e15
                        · intro li_ a_ w1 hc hi hJ hF hS
                          have l0 : li_ 0 = true := (hS ⟨0, .data⟩ (by simp) rfl).1
                          have l4 : li_ 4 = true := (hS ⟨4, .data⟩ (by simp) rfl).1
                          have l5 : li_ 5 = true := (hS ⟨5, .data⟩ (by simp) rfl).1
                          have l6 : li_ 6 = true := (hS ⟨6, .data⟩ (by simp) rfl).1
                          have l7 : li_ 7 = true := (hS ⟨7, .data⟩ (by simp) rfl).1
                          have e100 : a_.eval (.tmp 100) = (.int .i64 (k : Int)) := (hS ⟨0, .data⟩ (by simp) rfl).2 _ rfl
                          have e104 : a_.eval (.tmp 104) = y.val := (hS ⟨4, .data⟩ (by simp) rfl).2 _ rfl
                          have e105 : a_.eval (.tmp 105) = (.slice ao2 p.length cap2) := (hS ⟨5, .data⟩ (by simp) rfl).2 _ rfl
                          have e106 : a_.eval (.tmp 106) = x.val := (hS ⟨6, .data⟩ (by simp) rfl).2 _ rfl
                          have e107 : a_.eval (.tmp 107) = (.slice ao2 p.length cap2) := (hS ⟨7, .data⟩ (by simp) rfl).2 _ rfl
                          refine wantD (by rfl) ?_
                          exact opF_call (args := #[.int .i64 (k : Int), y.val, .slice ao2 p.length cap2, x.val, .slice ao2 p.length cap2]) kB48 (by show #[a_.eval (.tmp 100), a_.eval (.tmp 104), a_.eval (.tmp 105), a_.eval (.tmp 106), a_.eval (.tmp 107)] = _; rw [e100, e104, e105, e106, e107]) ((coll_any w1 _ _ (k : Int) y x p p (show Arrs w1 (.slice ao2 p.length cap2) p from Holds.sl1 hJ) (show Arrs w1 (.slice ao2 p.length cap2) p from Holds.sl1 hJ) HPL.out HQL10.out).mono fun e w' ⟨he, hb⟩ => ⟨_, he, AJ.grow hJ hb, by rw [HO.out]; exact HTUP.out⟩)
                        · intro li_ a_ w1 hc hi hJ hF hS
                          have l8 : li_ 8 = true := (hS ⟨8, .data⟩ (by simp) rfl).1
                          have e108 : a_.eval (.tmp 108) = (.tuple #[.agg (twoCs lv A B).toArray, .bool true]) := (hS ⟨8, .data⟩ (by simp) rfl).2 _ rfl
                          refine wantD (by rfl) ?_
                          exact opF_val rfl (ex_move rfl w1) hJ e108
                        · intro li_ a_ w1 hc hi hJ hF hS
                          have l9 : li_ 9 = true := (hS ⟨9, .data⟩ (by simp) rfl).1
                          have e99 : a_.eval (.tmp 99) = (.tuple #[.agg (twoCs lv A B).toArray, .bool true]) := (hS ⟨9, .data⟩ (by simp) rfl).2 _ rfl
                          refine wantD (by rfl) ?_
                          exact opF_val rfl (ex_extract e99 rfl w1) hJ rfl
                        · intro li_ a_ w1 hc hi hJ hF hS
                          have l9 : li_ 9 = true := (hS ⟨9, .data⟩ (by simp) rfl).1
                          have e99 : a_.eval (.tmp 99) = (.tuple #[.agg (twoCs lv A B).toArray, .bool true]) := (hS ⟨9, .data⟩ (by simp) rfl).2 _ rfl
                          refine wantD (by rfl) ?_
                          exact opF_val rfl (ex_extract e99 rfl w1) hJ rfl
                        · intro li_ a_ w1 hc hi hJ hF hS
                          refine wantD (by rfl) ?_
                          exact aj_alloc kZ82b hJ hi (hc.off (j := 13) (by kernel_rfl) hi) (by decide) (fun _ => rfl)
                        · intro li_ a_ w1 hc hi hJ hF hS
                          have l12 : li_ 12 = true := (hS ⟨12, .data⟩ (by simp) rfl).1
                          have l10 : li_ 10 = true := (hS ⟨10, .data⟩ (by simp) rfl).1
                          have l8 : li_ 8 = true := (hS ⟨8, .chain⟩ (by simp) rfl).1
                          have l0 : li_ 0 = true := (hS ⟨0, .phase⟩ (by simp) rfl).1
                          have l1 : li_ 1 = true := (hS ⟨1, .phase⟩ (by simp) rfl).1
                          have l2 : li_ 2 = true := (hS ⟨2, .phase⟩ (by simp) rfl).1
                          have l3 : li_ 3 = true := (hS ⟨3, .phase⟩ (by simp) rfl).1
                          have l4 : li_ 4 = true := (hS ⟨4, .phase⟩ (by simp) rfl).1
                          have l5 : li_ 5 = true := (hS ⟨5, .phase⟩ (by simp) rfl).1
                          have l6 : li_ 6 = true := (hS ⟨6, .phase⟩ (by simp) rfl).1
                          have l7 : li_ 7 = true := (hS ⟨7, .phase⟩ (by simp) rfl).1
                          have l9 : li_ 9 = true := (hS ⟨9, .phase⟩ (by simp) rfl).1
                          have e18 : (isPtr) (a_.eval (.tmp 18)) := (hS ⟨12, .data⟩ (by simp) rfl).2 _ rfl
                          have e109 : a_.eval (.tmp 109) = (.agg (twoCs lv A B).toArray) := (hS ⟨10, .data⟩ (by simp) rfl).2 _ rfl
                          refine wantD (by rfl) ?_
                          exact aj_store kS82 (two_len _ _ _) (two_len _ _ _) (two_one _ _ _) hJ l12 hi (by decide) e18 e109 rfl
                        · intro li_ a_ w1 hc hi hJ hF hS
                          have l11 : li_ 11 = true := (hS ⟨11, .data⟩ (by simp) rfl).1
                          have l13 : li_ 13 = true := (hS ⟨13, .chain⟩ (by simp) rfl).1
                          have l0 : li_ 0 = true := (hS ⟨0, .phase⟩ (by simp) rfl).1
                          have l1 : li_ 1 = true := (hS ⟨1, .phase⟩ (by simp) rfl).1
                          have l2 : li_ 2 = true := (hS ⟨2, .phase⟩ (by simp) rfl).1
                          have l3 : li_ 3 = true := (hS ⟨3, .phase⟩ (by simp) rfl).1
                          have l4 : li_ 4 = true := (hS ⟨4, .phase⟩ (by simp) rfl).1
                          have l5 : li_ 5 = true := (hS ⟨5, .phase⟩ (by simp) rfl).1
                          have l6 : li_ 6 = true := (hS ⟨6, .phase⟩ (by simp) rfl).1
                          have l7 : li_ 7 = true := (hS ⟨7, .phase⟩ (by simp) rfl).1
                          have l8 : li_ 8 = true := (hS ⟨8, .phase⟩ (by simp) rfl).1
                          have l9 : li_ 9 = true := (hS ⟨9, .phase⟩ (by simp) rfl).1
                          have l10 : li_ 10 = true := (hS ⟨10, .phase⟩ (by simp) rfl).1
                          have l12 : li_ 12 = true := (hS ⟨12, .phase⟩ (by simp) rfl).1
                          have e110 : a_.eval (.tmp 110) = (.bool true) := (hS ⟨11, .data⟩ (by simp) rfl).2 _ rfl
                          refine wantD (by rfl) ?_
                          exact opF_val rfl (ex_assign rfl w1) hJ e110
                      intro v0_ h0_ v1_ h1_ v2_ h2_ v3_ h3_ v4_ h4_ v5_ h5_ v6_ h6_ v7_ h7_ v8_ h8_ v9_ h9_ v10_ h10_ v11_ h11_ v12_ h12_ v13_ h13_ v14_ h14_
                      intro wq hq_
                      have q_ : v0_ = (.int .i64 (k : Int)) := h0_; clear h0_; subst q_
                      have q_ : v1_ = (.slice (some ad1) l.length cap1) := h1_; clear h1_; subst q_
                      have q_ : v2_ = (.int .i64 (k : Int)) := h2_; clear h2_; subst q_
                      have q_ : v3_ = (.pointer (some (ad1.add (k * 16)))) := h3_; clear h3_; subst q_
                      have q_ : v4_ = y.val := h4_; clear h4_; subst q_
                      have q_ : v5_ = (.slice ao2 p.length cap2) := h5_; clear h5_; subst q_
                      have q_ : v6_ = x.val := h6_; clear h6_; subst q_
                      have q_ : v7_ = (.slice ao2 p.length cap2) := h7_; clear h7_; subst q_
                      have q_ : v8_ = (.tuple #[.agg (twoCs lv A B).toArray, .bool true]) := h8_; clear h8_; subst q_
                      have q_ : v9_ = (.tuple #[.agg (twoCs lv A B).toArray, .bool true]) := h9_; clear h9_; subst q_
                      have q_ : v10_ = (.agg (twoCs lv A B).toArray) := h10_; clear h10_; subst q_
                      have q_ : v11_ = (.bool true) := h11_; clear h11_; subst q_
                      obtain ⟨g18_, rfl⟩ := h12_
                      clear h13_
                      have q_ : v14_ = (.bool true) := h14_; clear h14_; subst q_
                      have HQ := hid hq_; clear hq_
                      simp only [putsD, Act.put, List.setIfInBounds_toArray, List.set_cons_succ, List.set_cons_zero]
                      have hq2_ : Holds w [] [(g18_, objC (twoCs lv A B) 82), (g11_, objC r.cells 34), (g8_, objC x.cells 41), (g4_, objC (claimCs (k : Int) x (.slice ap pp.length cp)) 79)] [rowA 34 ao3 cap3 pp, rowA 34 ao2 cap2 p, rowA 34 (some ad1) cap1 l] wq := HQ.out
                      clear HH HQ
                      have HH := hid hq2_
                      clear hq2_
                      go_wp2_with (first
                        | ((first
                            | ((with_reducible apply wpL_skip); rfl; skip)
                            | ((with_reducible apply wpL_nilCheck); rfl; rfl)
                            | ((with_reducible apply wpL_fieldAddr); (first | exact kF79_0 | exact kF79_1 | exact kF79_2 | exact kF82_0 | exact kF82_1 | exact kF82_2); rfl; rfl)
                            | ((with_reducible apply wpL_load1 (t := 3) kO3 HH.out); rfl; (repeat (first | exact .here | refine .there ?_)); rfl; rfl)
                            | ((with_reducible apply wpL_load1 (t := 30) kO30 HH.out); rfl; (repeat (first | exact .here | refine .there ?_)); rfl; rfl)
                            | ((with_reducible apply wpL_loadArr (t := 34) kA34 HH.out); rfl; (repeat (first | exact .here | refine .there ?_)); rfl)
                            | ((with_reducible apply wpL_loadArr (t := 41) kA41 HH.out); rfl; (repeat (first | exact .here | refine .there ?_)); rfl)
                            | ((with_reducible apply wpL_loadC (t := 80) kA80 HH.out); rfl; (repeat (first | exact .here | refine .there ?_)); (first | rfl | exact Arr.len _ | (simp; done)); rfl)
                            | ((with_reducible apply wpL_loadC (t := 82) kA82 HH.out); rfl; (repeat (first | exact .here | refine .there ?_)); (first | rfl | exact Arr.len _ | (simp; done)); rfl)
                            | ((with_reducible apply wpL_len (t := 30) Try.underlying30); rfl; rfl)
                            | ((with_reducible apply wpL_len (t := 46) Try.underlying46); rfl; rfl)
                            | ((with_reducible apply wpL_boxC (dst := some 4)); rfl; (exact HH.out); rfl; (intro g4_ w_ hq_; (try simp only [List.set_cons_zero, List.set_cons_succ] at hq_); clear HH; have HH := hid hq_; clear hq_))
                            | ((with_reducible apply wpL_allocC (dst := some 8) kZ41 HH.out); rfl; (intro g8_ w_ hq_; (try simp only [List.set_cons_zero, List.set_cons_succ] at hq_); clear HH; have HH := hid hq_; clear hq_))
                            | ((with_reducible apply wpL_allocC (dst := some 11) kZ34 HH.out); rfl; (intro g11_ w_ hq_; (try simp only [List.set_cons_zero, List.set_cons_succ] at hq_); clear HH; have HH := hid hq_; clear hq_))
                            | ((with_reducible apply wpL_allocC (dst := some 18) kZ82 HH.out); rfl; (intro g18_ w_ hq_; (try simp only [List.set_cons_zero, List.set_cons_succ] at hq_); clear HH; have HH := hid hq_; clear hq_))
                            | ((with_reducible apply wpL_storeArr (t := 34) kS34 HH.out); rfl; rfl; (repeat (first | exact .here | refine .there ?_)); (first | rfl | exact Arr.len _ | (simp; done)); rfl; (intro w_ hq_; (try simp only [List.set_cons_zero, List.set_cons_succ] at hq_); clear HH; have HH := hid hq_; clear hq_))
                            | ((with_reducible apply wpL_storeArr (t := 41) kS41 HH.out); rfl; rfl; (repeat (first | exact .here | refine .there ?_)); (first | rfl | exact Arr.len _ | (simp; done)); rfl; (intro w_ hq_; (try simp only [List.set_cons_zero, List.set_cons_succ] at hq_); clear HH; have HH := hid hq_; clear hq_))
                            | ((with_reducible apply wpL_storeC (t := 82)); rfl; rfl; (exact kS82); (exact HH.out); (repeat (first | exact .here | refine .there ?_)); (first | rfl | exact Arr.len _ | (simp; done)); (first | rfl | (intro u_ hu_; simp only [List.mem_cons, List.not_mem_nil, or_false] at hu_; rcases hu_ with rfl | hu_; rfl) | exact byt_cell1 _ | exact cells_one _ | exact wrd_one _ | exact flat_cell1 _); (first | rfl | exact Arr.len _ | (simp; done)); rfl; (intro w_ hq_; (try simp only [List.set_cons_zero, List.set_cons_succ] at hq_); clear HH; have HH := hid hq_; clear hq_))
                            | ((with_reducible apply wpL_move); rfl; rfl)
                            | ((with_reducible apply wpL_assign); rfl; rfl)
                            | ((with_reducible apply wpL_pick); rfl; rfl; rfl)
                            | ((with_reducible apply wpL_not); rfl; rfl)
                            | ((with_reducible apply wpL_cmp (b := true)); rfl; rfl; rfl; (first | rfl | assumption | (simp only [cmpB, decide_eq_true_eq, decide_eq_false_iff_not, beq_iff_eq, bne_iff_ne, ne_eq, beq_eq_false_iff_ne, bne_eq_false_iff_eq, gt_iff_lt, ge_iff_le]; omega) | (simp; omega)); rfl)
                            | ((with_reducible apply wpL_cmp (b := false)); rfl; rfl; rfl; (first | rfl | assumption | (simp only [cmpB, decide_eq_true_eq, decide_eq_false_iff_not, beq_iff_eq, bne_iff_ne, ne_eq, beq_eq_false_iff_ne, bne_eq_false_iff_eq, gt_iff_lt, ge_iff_le]; omega) | (simp; omega)); rfl)
                            | ((with_reducible apply wpL_cmp); rfl; rfl; rfl; rfl; rfl)
                            | ((with_reducible apply wpL_arith); rfl; rfl; rfl; (exact IntWalk.i64_in _ (by (try simp only [arithI]); omega)); rfl)); (try simp only [arithI, Act.put, Act.eval, List.setIfInBounds_toArray, List.set_cons_succ, List.set_cons_zero, Array.getD_eq_getD_getElem?, List.getElem?_toArray, List.getElem?_cons_succ, List.getElem?_cons_zero, Option.getD_some])))
                      refine wp_region_holds (by kernel_rfl) (by kernel_rfl) HH.out ?_
                      repeat ((first
                        | ((with_reducible apply wpQ_skip); rfl; skip)
                        | ((with_reducible apply wpQ_loadPA (dst := some 123) (t := 80) (v := A) kA80); rfl; (exact .here); (exact two_a _ _ _); rfl)
                        | ((with_reducible apply wpQ_loadPA (dst := some 125) (t := 80) (v := B) kA80); rfl; (exact .here); (exact two_b _ _ _); rfl)
                        | ((with_reducible apply wpQ_neq80 (p := A) (q := B) (b := true)); rfl; rfl; (exact HAB.out); rfl)
                        | ((with_reducible apply wpQ_indexE (dst := some 132) (m := 0) Try.underlying80 kS34 (by decide)); rfl; rfl; rfl; (exact (by decide)); rfl)
                        | ((with_reducible apply wpQ_indexE (dst := some 135) (m := 1) Try.underlying80 kS34 (by decide)); rfl; rfl; rfl; (exact (by decide)); rfl)
                        | ((with_reducible apply wpQ_indexE (dst := some 141) (m := 0) Try.underlying80 kS34 (by decide)); rfl; rfl; rfl; (exact (by decide)); rfl)
                        | ((with_reducible apply wpQ_indexE (dst := some 144) (m := 1) Try.underlying80 kS34 (by decide)); rfl; rfl; rfl; (exact (by decide)); rfl)
                        | ((with_reducible apply wpQ_loadPA (dst := some 133) (t := 34) (v := A0) kA34); rfl; (exact .here); (exact (two_part HA2.out).1); rfl)
                        | ((with_reducible apply wpQ_loadPA (dst := some 136) (t := 34) (v := A1) kA34); rfl; (exact .here); (exact (two_part HA2.out).2); rfl)
                        | ((with_reducible apply wpQ_loadPA (dst := some 142) (t := 34) (v := B0) kA34); rfl; (exact .here); (exact (two_part HB2.out).1); rfl)
                        | ((with_reducible apply wpQ_loadPA (dst := some 145) (t := 34) (v := B1) kA34); rfl; (exact .here); (exact (two_part HB2.out).2); rfl)
                        | ((with_reducible apply wpQ_call (dst := some 137) (v := d.val) (args := #[.int .i64 lv, A0.val, A1.val]) kB37); rfl; (intro wq hwq; exact (join_any wq lv A0 A1).mono fun e w' ⟨he, hb⟩ => ⟨by rw [he, HDA.out], hwq.grow hb⟩); rfl)
                        | ((with_reducible apply wpQ_call (dst := some 146) (v := d.val) (args := #[.int .i64 lv, B0.val, B1.val]) kB37); rfl; (intro wq hwq; exact (join_any wq lv B0 B1).mono fun e w' ⟨he, hb⟩ => ⟨by rw [he, HDB.out], hwq.grow hb⟩); rfl)
                        | ((with_reducible apply wpQ_eqlA (b := true) (p := d) (q := d) kR34); rfl; rfl; (exact arrRefl _); rfl)
                        | ((with_reducible apply wpQ_nilCheck); rfl; rfl)
                        | ((with_reducible apply wpQ_fieldAddr); (first | exact kF79_0 | exact kF79_1 | exact kF79_2 | exact kF82_0 | exact kF82_1 | exact kF82_2); rfl; rfl)
                        | ((with_reducible apply wpQ_load1 (t := 3) kO3); rfl; (repeat (first | exact .here | refine .there ?_)); rfl; rfl)
                        | ((with_reducible apply wpQ_load1 (t := 30) kO30); rfl; (repeat (first | exact .here | refine .there ?_)); rfl; rfl)
                        | ((with_reducible apply wpQ_loadArr (t := 34) kA34); rfl; (repeat (first | exact .here | refine .there ?_)); rfl)
                        | ((with_reducible apply wpQ_loadArr (t := 41) kA41); rfl; (repeat (first | exact .here | refine .there ?_)); rfl)
                        | ((with_reducible apply wpQ_loadC (t := 80) kA80); rfl; (repeat (first | exact .here | refine .there ?_)); (first | rfl | exact Arr.len _ | (simp; done)); rfl)
                        | ((with_reducible apply wpQ_loadC (t := 82) kA82); rfl; (repeat (first | exact .here | refine .there ?_)); (first | rfl | exact Arr.len _ | (simp; done)); rfl)
                        | ((with_reducible apply wpQ_len (t := 30) Try.underlying30); rfl; rfl)
                        | ((with_reducible apply wpQ_len (t := 46) Try.underlying46); rfl; rfl)
                        | ((with_reducible apply wpQ_move); rfl; rfl)
                        | ((with_reducible apply wpQ_assign); rfl; rfl)
                        | ((with_reducible apply wpQ_pick); rfl; rfl; rfl)
                        | ((with_reducible apply wpQ_not); rfl; rfl)
                        | ((with_reducible apply wpQ_cmp (b := true)); rfl; rfl; rfl; (first | rfl | assumption | (simp only [cmpB, decide_eq_true_eq, decide_eq_false_iff_not, beq_iff_eq, bne_iff_ne, ne_eq, beq_eq_false_iff_ne, bne_eq_false_iff_eq, gt_iff_lt, ge_iff_le]; omega) | (simp; omega)); rfl)
                        | ((with_reducible apply wpQ_cmp (b := false)); rfl; rfl; rfl; (first | rfl | assumption | (simp only [cmpB, decide_eq_true_eq, decide_eq_false_iff_not, beq_iff_eq, bne_iff_ne, ne_eq, beq_eq_false_iff_ne, bne_eq_false_iff_eq, gt_iff_lt, ge_iff_le]; omega) | (simp; omega)); rfl)
                        | ((with_reducible apply wpQ_cmp); rfl; rfl; rfl; rfl; rfl)
                        | ((with_reducible apply wpQ_arith); rfl; rfl; rfl; (exact IntWalk.i64_in _ (by (try simp only [arithI]); omega)); rfl)); (try simp only [if_true, if_false, Bool.false_eq_true, arithI, Act.put, Act.eval, List.setIfInBounds_toArray, List.set_cons_succ, List.set_cons_zero, Array.getD_eq_getD_getElem?, List.getElem?_toArray, List.getElem?_cons_succ, List.getElem?_cons_zero, Option.getD_some]))
                      refine wpQuiet_nil ?_
                      intro wq hq_
                      have HQ := hid hq_
                      clear hq_
                      go_wp2
                      go_ret
                      exact RetB.mk rfl HQ.out.below
            · have hlb : ((p.length : Int) != (p.length : Int)) = true := by simp; omega
              clear hr hc hp hpc hlq hik hkl hy
              go_wp2_with (first
                | ((first
                    | ((with_reducible apply wpL_skip); rfl; skip)
                    | (go_at_call 23; (first | ((have hcall_ := hid (knownM_any _)); (with_reducible refine hcall_.out.mono ?_); clear hcall_) | (with_reducible refine (knownM_any _).mono ?_)); rintro e_ w2_ ⟨rfl, hb_⟩; (have hq_ := HH.out.grow hb_); clear HH; have HH := hid hq_; clear hq_ hb_)
                    | (go_at_call 49; (have hcall_ := hid (ownN_any _ (.slice ao l.length cap) l (HH.out.sl HL.out) (by omega))); (with_reducible refine hcall_.out.mono ?_); clear hcall_; rintro e_ w2_ ⟨ao1, cap1, rfl, hr_, hb_⟩; (have hq_ := HH.out.addRow hb_ hr_); clear HH; have HH := hid hq_; clear hq_ hb_ hr_)
                    | (go_at_call 38; (have hcall_ := hid (root_any _ _ l HH.out.sl0 (by omega))); (with_reducible refine hcall_.out.mono ?_); clear hcall_; rw [HR.out, HC.out]; rintro e_ w2_ ⟨rfl, hb_⟩; (have hq_ := HH.out.grow hb_); clear HH; have HH := hid hq_; clear hq_ hb_)
                    | (go_at_call 51; (have hcall_ := hid (progPathO_any _ _ l (k:Int) HH.out.sl0 (by omega))); (with_reducible refine hcall_.out.mono ?_); clear hcall_; rw [HP.out, HPC.out]; rintro e_ w2_ ⟨ao2, cap2, rfl, hr_, hb_⟩; (have hq_ := HH.out.addRow hb_ hr_); clear HH; have HH := hid hq_; clear hq_ hb_ hr_)
                    | (go_at_call 49; (have hcall_ := hid (ownN_any _ (.slice ap pp.length cp) pp (HH.out.sl HPP.out) (by omega))); (with_reducible refine hcall_.out.mono ?_); clear hcall_; rintro e_ w2_ ⟨ao3, cap3, rfl, hr_, hb_⟩; (have hq_ := HH.out.addRow hb_ hr_); clear HH; have HH := hid hq_; clear hq_ hb_ hr_)
                    | ((with_reducible apply wpL_nilCheck); rfl; rfl)
                    | ((with_reducible apply wpL_fieldAddr); (first | exact kF79_0 | exact kF79_1 | exact kF79_2 | exact kF82_0 | exact kF82_1 | exact kF82_2); rfl; rfl)
                    | ((with_reducible apply wpL_load1 (t := 3) kO3 HH.out); rfl; (repeat (first | exact .here | refine .there ?_)); rfl; rfl)
                    | ((with_reducible apply wpL_load1 (t := 30) kO30 HH.out); rfl; (repeat (first | exact .here | refine .there ?_)); rfl; rfl)
                    | ((with_reducible apply wpL_loadArr (t := 34) kA34 HH.out); rfl; (repeat (first | exact .here | refine .there ?_)); rfl)
                    | ((with_reducible apply wpL_loadArr (t := 41) kA41 HH.out); rfl; (repeat (first | exact .here | refine .there ?_)); rfl)
                    | ((with_reducible apply wpL_loadC (t := 80) kA80 HH.out); rfl; (repeat (first | exact .here | refine .there ?_)); (first | rfl | exact Arr.len _ | (simp; done)); rfl)
                    | ((with_reducible apply wpL_loadC (t := 82) kA82 HH.out); rfl; (repeat (first | exact .here | refine .there ?_)); (first | rfl | exact Arr.len _ | (simp; done)); rfl)
                    | ((with_reducible apply wpL_len (t := 30) Try.underlying30); rfl; rfl)
                    | ((with_reducible apply wpL_len (t := 46) Try.underlying46); rfl; rfl)
                    | ((with_reducible apply wpL_boxC (dst := some 4)); rfl; (exact HH.out); rfl; (intro g4_ w_ hq_; (try simp only [List.set_cons_zero, List.set_cons_succ] at hq_); clear HH; have HH := hid hq_; clear hq_))
                    | ((with_reducible apply wpL_allocC (dst := some 8) kZ41 HH.out); rfl; (intro g8_ w_ hq_; (try simp only [List.set_cons_zero, List.set_cons_succ] at hq_); clear HH; have HH := hid hq_; clear hq_))
                    | ((with_reducible apply wpL_allocC (dst := some 11) kZ34 HH.out); rfl; (intro g11_ w_ hq_; (try simp only [List.set_cons_zero, List.set_cons_succ] at hq_); clear HH; have HH := hid hq_; clear hq_))
                    | ((with_reducible apply wpL_allocC (dst := some 18) kZ82 HH.out); rfl; (intro g18_ w_ hq_; (try simp only [List.set_cons_zero, List.set_cons_succ] at hq_); clear HH; have HH := hid hq_; clear hq_))
                    | ((with_reducible apply wpL_storeArr (t := 34) kS34 HH.out); rfl; rfl; (repeat (first | exact .here | refine .there ?_)); (first | rfl | exact Arr.len _ | (simp; done)); rfl; (intro w_ hq_; (try simp only [List.set_cons_zero, List.set_cons_succ] at hq_); clear HH; have HH := hid hq_; clear hq_))
                    | ((with_reducible apply wpL_storeArr (t := 41) kS41 HH.out); rfl; rfl; (repeat (first | exact .here | refine .there ?_)); (first | rfl | exact Arr.len _ | (simp; done)); rfl; (intro w_ hq_; (try simp only [List.set_cons_zero, List.set_cons_succ] at hq_); clear HH; have HH := hid hq_; clear hq_))
                    | ((with_reducible apply wpL_storeC (t := 82)); rfl; rfl; (exact kS82); (exact HH.out); (repeat (first | exact .here | refine .there ?_)); (first | rfl | exact Arr.len _ | (simp; done)); (first | rfl | (intro u_ hu_; simp only [List.mem_cons, List.not_mem_nil, or_false] at hu_; rcases hu_ with rfl | hu_; rfl) | exact byt_cell1 _ | exact cells_one _ | exact wrd_one _ | exact flat_cell1 _); (first | rfl | exact Arr.len _ | (simp; done)); rfl; (intro w_ hq_; (try simp only [List.set_cons_zero, List.set_cons_succ] at hq_); clear HH; have HH := hid hq_; clear hq_))
                    | ((with_reducible apply wpL_move); rfl; rfl)
                    | ((with_reducible apply wpL_assign); rfl; rfl)
                    | ((with_reducible apply wpL_pick); rfl; rfl; rfl)
                    | ((with_reducible apply wpL_not); rfl; rfl)
                    | ((with_reducible apply wpL_cmp (b := true)); rfl; rfl; rfl; (first | rfl | assumption | (simp only [cmpB, decide_eq_true_eq, decide_eq_false_iff_not, beq_iff_eq, bne_iff_ne, ne_eq, beq_eq_false_iff_ne, bne_eq_false_iff_eq, gt_iff_lt, ge_iff_le]; omega) | (simp; omega)); rfl)
                    | ((with_reducible apply wpL_cmp (b := false)); rfl; rfl; rfl; (first | rfl | assumption | (simp only [cmpB, decide_eq_true_eq, decide_eq_false_iff_not, beq_iff_eq, bne_iff_ne, ne_eq, beq_eq_false_iff_ne, bne_eq_false_iff_eq, gt_iff_lt, ge_iff_le]; omega) | (simp; omega)); rfl)
                    | ((with_reducible apply wpL_cmp); rfl; rfl; rfl; rfl; rfl)
                    | ((with_reducible apply wpL_arith); rfl; rfl; rfl; (exact IntWalk.i64_in _ (by (try simp only [arithI]); omega)); rfl)); (try simp only [arithI, Act.put, Act.eval, List.setIfInBounds_toArray, List.set_cons_succ, List.set_cons_zero, Array.getD_eq_getD_getElem?, List.getElem?_toArray, List.getElem?_cons_succ, List.getElem?_cons_zero, Option.getD_some])))
              go_ret
              exact RetB.mk rfl HH.out.below
        · have hpb : ((pc : Int) != 0) = true := by simpa using hpc0
          clear hr hc hp hpc hpc0
          go_wp2_with (first
            | ((first
                | ((with_reducible apply wpL_skip); rfl; skip)
                | (go_at_call 23; (first | ((have hcall_ := hid (knownM_any _)); (with_reducible refine hcall_.out.mono ?_); clear hcall_) | (with_reducible refine (knownM_any _).mono ?_)); rintro e_ w2_ ⟨rfl, hb_⟩; (have hq_ := HH.out.grow hb_); clear HH; have HH := hid hq_; clear hq_ hb_)
                | (go_at_call 49; (have hcall_ := hid (ownN_any _ (.slice ao l.length cap) l (HH.out.sl HL.out) (by omega))); (with_reducible refine hcall_.out.mono ?_); clear hcall_; rintro e_ w2_ ⟨ao1, cap1, rfl, hr_, hb_⟩; (have hq_ := HH.out.addRow hb_ hr_); clear HH; have HH := hid hq_; clear hq_ hb_ hr_)
                | (go_at_call 38; (have hcall_ := hid (root_any _ _ l HH.out.sl0 (by omega))); (with_reducible refine hcall_.out.mono ?_); clear hcall_; rw [HR.out, HC.out]; rintro e_ w2_ ⟨rfl, hb_⟩; (have hq_ := HH.out.grow hb_); clear HH; have HH := hid hq_; clear hq_ hb_)
                | (go_at_call 51; (have hcall_ := hid (progPathO_any _ _ l i HH.out.sl0 (by omega))); (with_reducible refine hcall_.out.mono ?_); clear hcall_; rw [HP.out, HPC.out]; rintro e_ w2_ ⟨ao2, cap2, rfl, hr_, hb_⟩; (have hq_ := HH.out.addRow hb_ hr_); clear HH; have HH := hid hq_; clear hq_ hb_ hr_)
                | (go_at_call 49; (have hcall_ := hid (ownN_any _ (.slice ap pp.length cp) pp (HH.out.sl HPP.out) (by omega))); (with_reducible refine hcall_.out.mono ?_); clear hcall_; rintro e_ w2_ ⟨ao3, cap3, rfl, hr_, hb_⟩; (have hq_ := HH.out.addRow hb_ hr_); clear HH; have HH := hid hq_; clear hq_ hb_ hr_)
                | ((with_reducible apply wpL_nilCheck); rfl; rfl)
                | ((with_reducible apply wpL_fieldAddr); (first | exact kF79_0 | exact kF79_1 | exact kF79_2 | exact kF82_0 | exact kF82_1 | exact kF82_2); rfl; rfl)
                | ((with_reducible apply wpL_load1 (t := 3) kO3 HH.out); rfl; (repeat (first | exact .here | refine .there ?_)); rfl; rfl)
                | ((with_reducible apply wpL_load1 (t := 30) kO30 HH.out); rfl; (repeat (first | exact .here | refine .there ?_)); rfl; rfl)
                | ((with_reducible apply wpL_loadArr (t := 34) kA34 HH.out); rfl; (repeat (first | exact .here | refine .there ?_)); rfl)
                | ((with_reducible apply wpL_loadArr (t := 41) kA41 HH.out); rfl; (repeat (first | exact .here | refine .there ?_)); rfl)
                | ((with_reducible apply wpL_loadC (t := 80) kA80 HH.out); rfl; (repeat (first | exact .here | refine .there ?_)); (first | rfl | exact Arr.len _ | (simp; done)); rfl)
                | ((with_reducible apply wpL_loadC (t := 82) kA82 HH.out); rfl; (repeat (first | exact .here | refine .there ?_)); (first | rfl | exact Arr.len _ | (simp; done)); rfl)
                | ((with_reducible apply wpL_len (t := 30) Try.underlying30); rfl; rfl)
                | ((with_reducible apply wpL_len (t := 46) Try.underlying46); rfl; rfl)
                | ((with_reducible apply wpL_boxC (dst := some 4)); rfl; (exact HH.out); rfl; (intro g4_ w_ hq_; (try simp only [List.set_cons_zero, List.set_cons_succ] at hq_); clear HH; have HH := hid hq_; clear hq_))
                | ((with_reducible apply wpL_allocC (dst := some 8) kZ41 HH.out); rfl; (intro g8_ w_ hq_; (try simp only [List.set_cons_zero, List.set_cons_succ] at hq_); clear HH; have HH := hid hq_; clear hq_))
                | ((with_reducible apply wpL_allocC (dst := some 11) kZ34 HH.out); rfl; (intro g11_ w_ hq_; (try simp only [List.set_cons_zero, List.set_cons_succ] at hq_); clear HH; have HH := hid hq_; clear hq_))
                | ((with_reducible apply wpL_allocC (dst := some 18) kZ82 HH.out); rfl; (intro g18_ w_ hq_; (try simp only [List.set_cons_zero, List.set_cons_succ] at hq_); clear HH; have HH := hid hq_; clear hq_))
                | ((with_reducible apply wpL_storeArr (t := 34) kS34 HH.out); rfl; rfl; (repeat (first | exact .here | refine .there ?_)); (first | rfl | exact Arr.len _ | (simp; done)); rfl; (intro w_ hq_; (try simp only [List.set_cons_zero, List.set_cons_succ] at hq_); clear HH; have HH := hid hq_; clear hq_))
                | ((with_reducible apply wpL_storeArr (t := 41) kS41 HH.out); rfl; rfl; (repeat (first | exact .here | refine .there ?_)); (first | rfl | exact Arr.len _ | (simp; done)); rfl; (intro w_ hq_; (try simp only [List.set_cons_zero, List.set_cons_succ] at hq_); clear HH; have HH := hid hq_; clear hq_))
                | ((with_reducible apply wpL_storeC (t := 82)); rfl; rfl; (exact kS82); (exact HH.out); (repeat (first | exact .here | refine .there ?_)); (first | rfl | exact Arr.len _ | (simp; done)); (first | rfl | (intro u_ hu_; simp only [List.mem_cons, List.not_mem_nil, or_false] at hu_; rcases hu_ with rfl | hu_; rfl) | exact byt_cell1 _ | exact cells_one _ | exact wrd_one _ | exact flat_cell1 _); (first | rfl | exact Arr.len _ | (simp; done)); rfl; (intro w_ hq_; (try simp only [List.set_cons_zero, List.set_cons_succ] at hq_); clear HH; have HH := hid hq_; clear hq_))
                | ((with_reducible apply wpL_move); rfl; rfl)
                | ((with_reducible apply wpL_assign); rfl; rfl)
                | ((with_reducible apply wpL_pick); rfl; rfl; rfl)
                | ((with_reducible apply wpL_not); rfl; rfl)
                | ((with_reducible apply wpL_cmp (b := true)); rfl; rfl; rfl; (first | rfl | assumption | (simp only [cmpB, decide_eq_true_eq, decide_eq_false_iff_not, beq_iff_eq, bne_iff_ne, ne_eq, beq_eq_false_iff_ne, bne_eq_false_iff_eq, gt_iff_lt, ge_iff_le]; omega) | (simp; omega)); rfl)
                | ((with_reducible apply wpL_cmp (b := false)); rfl; rfl; rfl; (first | rfl | assumption | (simp only [cmpB, decide_eq_true_eq, decide_eq_false_iff_not, beq_iff_eq, bne_iff_ne, ne_eq, beq_eq_false_iff_ne, bne_eq_false_iff_eq, gt_iff_lt, ge_iff_le]; omega) | (simp; omega)); rfl)
                | ((with_reducible apply wpL_cmp); rfl; rfl; rfl; rfl; rfl)
                | ((with_reducible apply wpL_arith); rfl; rfl; rfl; (exact IntWalk.i64_in _ (by (try simp only [arithI]); omega)); rfl)); (try simp only [arithI, Act.put, Act.eval, List.setIfInBounds_toArray, List.set_cons_succ, List.set_cons_zero, Array.getD_eq_getD_getElem?, List.getElem?_toArray, List.getElem?_cons_succ, List.getElem?_cons_zero, Option.getD_some])))
          go_ret
          exact RetB.mk rfl HH.out.below
      · have hcb : ((c : Int) != 0) = true := by simpa using hc0
        clear hr hc hp hpc hc0
        go_wp2_with (first
          | ((first
              | ((with_reducible apply wpL_skip); rfl; skip)
              | (go_at_call 23; (first | ((have hcall_ := hid (knownM_any _)); (with_reducible refine hcall_.out.mono ?_); clear hcall_) | (with_reducible refine (knownM_any _).mono ?_)); rintro e_ w2_ ⟨rfl, hb_⟩; (have hq_ := HH.out.grow hb_); clear HH; have HH := hid hq_; clear hq_ hb_)
              | (go_at_call 49; (have hcall_ := hid (ownN_any _ (.slice ao l.length cap) l (HH.out.sl HL.out) (by omega))); (with_reducible refine hcall_.out.mono ?_); clear hcall_; rintro e_ w2_ ⟨ao1, cap1, rfl, hr_, hb_⟩; (have hq_ := HH.out.addRow hb_ hr_); clear HH; have HH := hid hq_; clear hq_ hb_ hr_)
              | (go_at_call 38; (have hcall_ := hid (root_any _ _ l HH.out.sl0 (by omega))); (with_reducible refine hcall_.out.mono ?_); clear hcall_; rw [HR.out, HC.out]; rintro e_ w2_ ⟨rfl, hb_⟩; (have hq_ := HH.out.grow hb_); clear HH; have HH := hid hq_; clear hq_ hb_)
              | (go_at_call 51; (have hcall_ := hid (progPathO_any _ _ l i HH.out.sl0 (by omega))); (with_reducible refine hcall_.out.mono ?_); clear hcall_; rw [HP.out, HPC.out]; rintro e_ w2_ ⟨ao2, cap2, rfl, hr_, hb_⟩; (have hq_ := HH.out.addRow hb_ hr_); clear HH; have HH := hid hq_; clear hq_ hb_ hr_)
              | (go_at_call 49; (have hcall_ := hid (ownN_any _ (.slice ap pp.length cp) pp (HH.out.sl HPP.out) (by omega))); (with_reducible refine hcall_.out.mono ?_); clear hcall_; rintro e_ w2_ ⟨ao3, cap3, rfl, hr_, hb_⟩; (have hq_ := HH.out.addRow hb_ hr_); clear HH; have HH := hid hq_; clear hq_ hb_ hr_)
              | ((with_reducible apply wpL_nilCheck); rfl; rfl)
              | ((with_reducible apply wpL_fieldAddr); (first | exact kF79_0 | exact kF79_1 | exact kF79_2 | exact kF82_0 | exact kF82_1 | exact kF82_2); rfl; rfl)
              | ((with_reducible apply wpL_load1 (t := 3) kO3 HH.out); rfl; (repeat (first | exact .here | refine .there ?_)); rfl; rfl)
              | ((with_reducible apply wpL_load1 (t := 30) kO30 HH.out); rfl; (repeat (first | exact .here | refine .there ?_)); rfl; rfl)
              | ((with_reducible apply wpL_loadArr (t := 34) kA34 HH.out); rfl; (repeat (first | exact .here | refine .there ?_)); rfl)
              | ((with_reducible apply wpL_loadArr (t := 41) kA41 HH.out); rfl; (repeat (first | exact .here | refine .there ?_)); rfl)
              | ((with_reducible apply wpL_loadC (t := 80) kA80 HH.out); rfl; (repeat (first | exact .here | refine .there ?_)); (first | rfl | exact Arr.len _ | (simp; done)); rfl)
              | ((with_reducible apply wpL_loadC (t := 82) kA82 HH.out); rfl; (repeat (first | exact .here | refine .there ?_)); (first | rfl | exact Arr.len _ | (simp; done)); rfl)
              | ((with_reducible apply wpL_len (t := 30) Try.underlying30); rfl; rfl)
              | ((with_reducible apply wpL_len (t := 46) Try.underlying46); rfl; rfl)
              | ((with_reducible apply wpL_boxC (dst := some 4)); rfl; (exact HH.out); rfl; (intro g4_ w_ hq_; (try simp only [List.set_cons_zero, List.set_cons_succ] at hq_); clear HH; have HH := hid hq_; clear hq_))
              | ((with_reducible apply wpL_allocC (dst := some 8) kZ41 HH.out); rfl; (intro g8_ w_ hq_; (try simp only [List.set_cons_zero, List.set_cons_succ] at hq_); clear HH; have HH := hid hq_; clear hq_))
              | ((with_reducible apply wpL_allocC (dst := some 11) kZ34 HH.out); rfl; (intro g11_ w_ hq_; (try simp only [List.set_cons_zero, List.set_cons_succ] at hq_); clear HH; have HH := hid hq_; clear hq_))
              | ((with_reducible apply wpL_allocC (dst := some 18) kZ82 HH.out); rfl; (intro g18_ w_ hq_; (try simp only [List.set_cons_zero, List.set_cons_succ] at hq_); clear HH; have HH := hid hq_; clear hq_))
              | ((with_reducible apply wpL_storeArr (t := 34) kS34 HH.out); rfl; rfl; (repeat (first | exact .here | refine .there ?_)); (first | rfl | exact Arr.len _ | (simp; done)); rfl; (intro w_ hq_; (try simp only [List.set_cons_zero, List.set_cons_succ] at hq_); clear HH; have HH := hid hq_; clear hq_))
              | ((with_reducible apply wpL_storeArr (t := 41) kS41 HH.out); rfl; rfl; (repeat (first | exact .here | refine .there ?_)); (first | rfl | exact Arr.len _ | (simp; done)); rfl; (intro w_ hq_; (try simp only [List.set_cons_zero, List.set_cons_succ] at hq_); clear HH; have HH := hid hq_; clear hq_))
              | ((with_reducible apply wpL_storeC (t := 82)); rfl; rfl; (exact kS82); (exact HH.out); (repeat (first | exact .here | refine .there ?_)); (first | rfl | exact Arr.len _ | (simp; done)); (first | rfl | (intro u_ hu_; simp only [List.mem_cons, List.not_mem_nil, or_false] at hu_; rcases hu_ with rfl | hu_; rfl) | exact byt_cell1 _ | exact cells_one _ | exact wrd_one _ | exact flat_cell1 _); (first | rfl | exact Arr.len _ | (simp; done)); rfl; (intro w_ hq_; (try simp only [List.set_cons_zero, List.set_cons_succ] at hq_); clear HH; have HH := hid hq_; clear hq_))
              | ((with_reducible apply wpL_move); rfl; rfl)
              | ((with_reducible apply wpL_assign); rfl; rfl)
              | ((with_reducible apply wpL_pick); rfl; rfl; rfl)
              | ((with_reducible apply wpL_not); rfl; rfl)
              | ((with_reducible apply wpL_cmp (b := true)); rfl; rfl; rfl; (first | rfl | assumption | (simp only [cmpB, decide_eq_true_eq, decide_eq_false_iff_not, beq_iff_eq, bne_iff_ne, ne_eq, beq_eq_false_iff_ne, bne_eq_false_iff_eq, gt_iff_lt, ge_iff_le]; omega) | (simp; omega)); rfl)
              | ((with_reducible apply wpL_cmp (b := false)); rfl; rfl; rfl; (first | rfl | assumption | (simp only [cmpB, decide_eq_true_eq, decide_eq_false_iff_not, beq_iff_eq, bne_iff_ne, ne_eq, beq_eq_false_iff_ne, bne_eq_false_iff_eq, gt_iff_lt, ge_iff_le]; omega) | (simp; omega)); rfl)
              | ((with_reducible apply wpL_cmp); rfl; rfl; rfl; rfl; rfl)
              | ((with_reducible apply wpL_arith); rfl; rfl; rfl; (exact IntWalk.i64_in _ (by (try simp only [arithI]); omega)); rfl)); (try simp only [arithI, Act.put, Act.eval, List.setIfInBounds_toArray, List.set_cons_succ, List.set_cons_zero, Array.getD_eq_getD_getElem?, List.getElem?_toArray, List.getElem?_cons_succ, List.getElem?_cons_zero, Option.getD_some])))
        go_ret
        exact RetB.mk rfl HH.out.below
end Go.Proofs.Ytgkfopodhikckaa

namespace Go.Proofs.Ytgkfopodhikckaa
open Go.ChangeShapes Go.WideShapes Go.ChangeAt Go.RowKit
set_option maxRecDepth 100000 in
theorem merkleForged_lifted (os : Os) (started : os.Started) (H : Type) (enc : TypeId × Value → H) :
    ReturnsInHanded {} Try.checked os 18 .any (Rows.merkleForgedSpec.pre6 enc Try.prog Try.f18 Rows.merkleForgedRow.domain false) (Rows.merkleForgedSpec.post enc Try.prog Try.f18 false true false false) := by
  refine returnsInHanded_of_change_sized (C := Try.checked) Try.own started (by kernel_rfl) Try.func18
    (ChangeSpec.witness6 (enc := enc) (C := Try.checked) false ⟨#[], #[.slice none 0 0, .agg (claimCs 0 (Arr.zero 16) (.slice none 0 0)).toArray, .bool false], []⟩ 8 (by kernel_rfl) (by kernel_rfl) (by kernel_rfl) (by kernel_rfl)) ?_
  intro W base args ds gs before hval0 hW _ hsz0 _
  have hsz : (DataW.weightsEach Try.prog (Try.f18.params.toList ++ Rows.merkleForgedSpec.plain.varTypes Try.prog) (ds ++ gs)).all (· ≤ reachBytes) = true := hsz0
  have hval : ∀ (j : Nat) t v, Try.f18.params[j]? = some t → args[j]? = some v → Value.okWide Try.prog W .any base t v := hval0
  have hW' := hW
  obtain ⟨p, q, hA0, hV, rfl, _, _⟩ := hW
  have hA : DataW.TrodAll enc Try.prog W 0 (fun _ => true) true Try.f18.params.toList args.toList ds p := hA0
  rw [Try.params18] at hA hval hsz
  obtain ⟨v0, v1, v2, d0, d1, d2, p0, p1, p2, rfl, rfl, rfl, h0, h1, h2⟩ := trodAll_three hA
  obtain ⟨rfl, rfl⟩ := trodVars_none hV
  obtain ⟨l, hl⟩ := open_nodes (hval 0 30 v0 rfl rfl) h0
  obtain ⟨ci, cx, cv, cp, cw, ch, rfl⟩ := open_claim (hval 1 79 v1 rfl rfl) h1
  obtain ⟨b, rfl, rfl, rfl⟩ := open_bool Try.underlying4 (hval 2 4 v2 rfl rfl) h2
  refine (law_forged W v0 l ci cx cv cp b hl ch).mono fun e W' ⟨he, hb⟩ => ?_
  exact ⟨_, he, post_true (tb := 4) Try.laidOut (readable_of (by kernel_rfl)) (by kernel_rfl) Try.underlying4 hW' rfl rfl hb⟩
theorem MerkleForged_holds : Rows.MerkleForgedSaid :=
  OpenClaim.holds_of_wide 18 Try.f18 rfl rfl rfl rfl rfl rfl rfl ⟨rfl, rfl, rfl, rfl, rfl⟩ rfl rfl rfl rfl rfl (by kernel_rfl) Try.func18 (by kernel_rfl)
    (of_decide_eq_true (by kernel_rfl)) (by unfold Func.isWrapper; rw [if_neg (by decide +kernel)]; exact ⟨rfl, rfl⟩)
    (fun os started H enc _ => merkleForged_lifted os started H enc)
end Go.Proofs.Ytgkfopodhikckaa

