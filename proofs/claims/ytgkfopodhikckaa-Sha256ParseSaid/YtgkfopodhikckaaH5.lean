/- cut and known of the laws of sha256. No condition. -/
import Derived.Test.YtgkfopodhikckaaH4
import Derived.Test.YtgkfopodhikckaaKN
import Derived.Test.YtgkfopodhikckaaS11
set_option linter.unusedSimpArgs false
set_option linter.unusedVariables false
namespace Go.Proofs.Ytgkfopodhikckaa
open Go.RowKit
section
variable {P : Program} {ops : Array Oper} {rest : List Oper} {a : Act} {dst : Option Tmp} {ty : TypeId} {pos : String} {after : Array Edge} {guard : Option (Nat × Bool)} {w w0 : World} {S : List Nat} {bs : List (Nat × Obj)} {rows : List Row} {Q : Exit → Act → World → Prop}
theorem wpL_convConst {t : TypeId} (ht : P.underlying t = some (.slice 5)) (he : P.underlying 5 = some (.int .u8)) {l : List UInt8} {g n c : Nat} {x : Operand} (hH : Holds w0 S bs (rowB (some ⟨g, 0, none⟩) c l :: rows) w) (hx : a.eval x = .slice (some ⟨g, 0, none⟩) n c) (hn : n = l.length)
    (hg : Region.wanted { dst := dst, op := .convert t t x, type := ty, pos := pos, after := after, guard := guard } (yielded ops a.tmps) = true)
    (h : ∀ w', Holds w0 S bs rows w' → Byts w' (.slice (some ⟨g, 0, none⟩) n c) l → wpList P ops Q rest (a.put dst (.slice (some ⟨g, 0, none⟩) n c)) w') : wpList P ops Q ({ dst := dst, op := .convert t t x, type := ty, pos := pos, after := after, guard := guard } :: rest) a w := by
  subst hn
  have hown := hH.own0
  rcases hown.2 with ⟨hv, _⟩ | ⟨g', cap', cur, hv, hb, hgc, hnc, hm, hs, htake⟩
  · simp at hv
  · simp only [Value.slice.injEq, Option.some.injEq, true_and, Addr.mk.injEq, and_true] at hv
    obtain ⟨rfl, rfl⟩ := hv
    have hsh : w.shape? g = some (5, cur.size) := by simp [World.shape?, hgc]
    have hr : (convert t t (.slice (some ⟨g, 0, none⟩) l.length c)).run P w = .ok (.slice (some ⟨g, 0, none⟩) l.length c) (w.freeze ⟨g, cur.size, none⟩ 1) := by
      simp [convert, run_underlying ht, run_underlying he, markStringish, hsh]
    have hgr : w.grownBy (w.freeze ⟨g, cur.size, none⟩ 1) (some g) := by
      unfold World.freeze
      split
      · exact ⟨rfl, rfl, rfl, Nat.le_refl _, fun _ _ _ => rfl⟩
      · refine ⟨rfl, rfl, rfl, by simp, fun k _ hk => ?_⟩
        simp only [Array.getElem?_modify]
        rw [if_neg (by intro e; exact hk (by rw [← e]))]
    refine wpList_ex hg (v := .slice (some ⟨g, 0, none⟩) l.length c) (w' := w.freeze ⟨g, cur.size, none⟩ 1) ?_ (h _ (hH.lostRow hgr) ?_)
    · simp only [execOp, hx, Sem.run_bind, hr, Result.andThen_ok, Sem.run_pure]
    · refine ⟨_, c, rfl, hnc, by simp, fun j u hu => ⟨_, rfl, ?_⟩⟩
      have hc := hown.cells (g := g) rfl j u hu
      rw [← hc]
      have hadd : (⟨g, 0, none⟩ : Addr).add j = ⟨g, j, none⟩ := by unfold Addr.add; split <;> simp_all
      rw [hadd]
      simp [World.cell?, World.freeze, hgc, Array.getElem?_modify]
theorem wpL_min {t ty' : TypeId} {x y : Operand} {p q r : Int} (hx : a.eval x = .int .i64 p) (hy : a.eval y = .int .i64 q) (hr : (if q < p then q else p) = r)
    (hg : Region.wanted { dst := dst, op := .call { callee := .builtin .min, args := #[x, y], argTypes := #[t, ty'] }, type := ty, pos := pos, after := after, guard := guard } (yielded ops a.tmps) = true)
    (h : wpList P ops Q rest (a.put dst (.int .i64 r)) w) : wpList P ops Q ({ dst := dst, op := .call { callee := .builtin .min, args := #[x, y], argTypes := #[t, ty'] }, type := ty, pos := pos, after := after, guard := guard } :: rest) a w := by
  refine wpList_ex hg ?_ h
  rw [BigFrame.execOp_builtin, BigFrame.builtin_min]
  simp only [List.map_toArray, List.map_cons, List.map_nil, hx, hy, Sem.run_bind, run_min_int2, hr, Result.andThen_ok, Sem.run_pure]
theorem wpL_sliceTo {t e : TypeId} {sz bytes : Nat} (hE : Elem P t e sz bytes) {x hi : Operand} {ao : Option Addr} {n c j : Nat} {q : Int} {k : IntKind} (hx : a.eval x = .slice ao n c) (hh : a.eval hi = .int k q) (hq : q = (j : Int)) (hj : j ≤ c)
    (hg : Region.wanted { dst := dst, op := .slice t x none (some hi) none, type := ty, pos := pos, after := after, guard := guard } (yielded ops a.tmps) = true)
    (h : wpList P ops Q rest (a.put dst (.slice ao j c)) w) : wpList P ops Q ({ dst := dst, op := .slice t x none (some hi) none, type := ty, pos := pos, after := after, guard := guard } :: rest) a w :=
  wpList_ex hg (ex_slice_to (ρ := a.eval) hE hx hh hq hj w) h
end
def RetB (w : World) (b : Bool) (e : Ending) (w' : World) : Prop := e = .returned (.bool b) ∧ Below w.heap.size w w'
theorem RetB.mk {w w' : World} {b c : Bool} (h : b = c) (hb : Below w.heap.size w w') : RetB w c (.returned (.bool b)) w' := ⟨by rw [h], hb⟩
def cutB (l : List UInt8) : List UInt8 := l.take 500
theorem cutB_len (l : List UInt8) : (cutB l).length ≤ 500 := by unfold cutB; rw [List.length_take]; omega
/-- A call that hands back bytes that lay there already. -/
def RetSub (w0 w : World) (l : List UInt8) (e : Ending) (w' : World) : Prop := ∃ ao cap, e = .returned (.slice ao l.length cap) ∧ Byts w0 (.slice ao l.length cap) l ∧ Below w.heap.size w w'
set_option maxRecDepth 100000 in
set_option maxHeartbeats 2000000 in
theorem cut_any (w0 w : World) (v : Value) (l : List UInt8) (hl : Byts w0 v l) : Calls Try.prog 19 #[v] w (RetSub w0 w (cutB l)) := by
  obtain ⟨ao, cap, rfl, hc⟩ := hl.shape
  have HL := hid hl
  clear hl
  have HH := hid (Holds.init w)
  go_enter Try.func19, Try.ntmps19
  go_wp2_with (first
    | ((first
        | ((with_reducible apply wpL_skip); rfl; skip)
        | ((with_reducible apply wpL_min (r := ((min l.length 500 : Nat) : Int))); rfl; rfl; (exact (by split <;> omega)); rfl)
        | ((with_reducible apply wpL_sliceTo (j := min l.length 500) kE22); rfl; rfl; rfl; (exact (by omega)); rfl)
        | ((with_reducible apply wpL_nilCheck); rfl; rfl)
        | ((with_reducible apply wpL_len (t := 22) Try.underlying22); rfl; rfl)
        | ((with_reducible apply wpL_move); rfl; rfl)
        | ((with_reducible apply wpL_assign); rfl; rfl)
        | ((with_reducible apply wpL_pick); rfl; rfl; rfl)
        | ((with_reducible apply wpL_not); rfl; rfl)
        | ((with_reducible apply wpL_cmp (b := true)); rfl; rfl; rfl; (first | rfl | assumption | (simp only [cmpB, decide_eq_true_eq, decide_eq_false_iff_not, beq_iff_eq, bne_iff_ne, ne_eq, beq_eq_false_iff_ne, bne_eq_false_iff_eq, gt_iff_lt, ge_iff_le]; omega) | (simp; omega)); rfl)
        | ((with_reducible apply wpL_cmp (b := false)); rfl; rfl; rfl; (first | rfl | assumption | (simp only [cmpB, decide_eq_true_eq, decide_eq_false_iff_not, beq_iff_eq, bne_iff_ne, ne_eq, beq_eq_false_iff_ne, bne_eq_false_iff_eq, gt_iff_lt, ge_iff_le]; omega) | (simp; omega)); rfl)
        | ((with_reducible apply wpL_cmp); rfl; rfl; rfl; rfl; rfl)
        | ((with_reducible apply wpL_arith); rfl; rfl; rfl; (exact IntWalk.i64_in _ (by (try simp only [arithI]); omega)); rfl)); (try simp only [arithI, Act.put, Act.eval, List.setIfInBounds_toArray, List.set_cons_succ, List.set_cons_zero, Array.getD_eq_getD_getElem?, List.getElem?_toArray, List.getElem?_cons_succ, List.getElem?_cons_zero, Option.getD_some])))
  go_ret
  have hs := HL.out.take (j := min l.length 500) (by omega)
  have e : min l.length 500 = (cutB l).length := by unfold cutB; rw [List.length_take]; omega
  rw [Nat.mul_one] at hs
  refine ⟨ao, cap, by rw [← e]; rfl, Byts.of (by rw [e] at hs; exact hs) rfl ?_, HH.out.below⟩
  unfold cutB
  rw [← List.map_take]
  apply congrArg
  by_cases h : l.length ≤ 500
  · rw [List.take_of_length_le (by rw [List.length_take]; omega), List.take_of_length_le h]
  · rw [show (List.take 500 l).length = 500 by rw [List.length_take]; omega]
set_option maxRecDepth 100000 in
set_option maxHeartbeats 4000000 in
theorem known_any (w : World) : Calls Try.prog 21 #[] w (RetB w true) := by
  have HH := hid (Holds.init w)
  have E1 := hid (show (hexB (sumB []).1 == kwA) = true from by rw [hexkwA]; exact beq_self_eq_true _)
  have E2 := hid (show (hexB (sumB [97, 98, 99]).1 == kwB) = true from by rw [hexkwB]; exact beq_self_eq_true _)
  have E3 := hid (show (hexB (sumB [97, 98, 99, 100, 98, 99, 100, 101, 99, 100, 101, 102, 100, 101, 102, 103, 101, 102, 103, 104, 102, 103, 104, 105, 103, 104, 105, 106, 104, 105, 106, 107, 105, 106, 107, 108, 106, 107, 108, 109, 107, 108, 109, 110, 108, 109, 110, 111, 109, 110, 111, 112, 110, 111, 112, 113]).1 == kwC) = true from by rw [hexkwC]; exact beq_self_eq_true _)
  go_enter Try.func21, Try.ntmps21
  go_wp2_with (first
    | ((first
        | ((with_reducible apply wpL_skip); rfl; skip)
        | (go_at_call 20; (first | ((have hcall_ := hid (shaSum_any _ _ _ HB13.out (by simp))); (with_reducible refine hcall_.out.mono ?_); clear hcall_) | (with_reducible refine (shaSum_any _ _ _ HB13.out (by simp)).mono ?_)); rintro e_ w2_ ⟨rfl, hb_⟩; (have hq_ := HH.out.grow hb_); clear HH; have HH := hid hq_; clear hq_ hb_)
        | (go_at_call 20; (first | ((have hcall_ := hid (shaSum_any _ _ _ HB6.out (by simp))); (with_reducible refine hcall_.out.mono ?_); clear hcall_) | (with_reducible refine (shaSum_any _ _ _ HB6.out (by simp)).mono ?_)); rintro e_ w2_ ⟨rfl, hb_⟩; (have hq_ := HH.out.grow hb_); clear HH; have HH := hid hq_; clear hq_ hb_)
        | (go_at_call 20; (first | ((have hcall_ := hid (shaSum_any _ (.slice none 0 0) [] (Sl.nil _ _) (by simp))); (with_reducible refine hcall_.out.mono ?_); clear hcall_) | (with_reducible refine (shaSum_any _ (.slice none 0 0) [] (Sl.nil _ _) (by simp)).mono ?_)); rintro e_ w2_ ⟨rfl, hb_⟩; (have hq_ := HH.out.grow hb_); clear HH; have HH := hid hq_; clear hq_ hb_)
        | (go_at_call 41; (first | ((have hcall_ := hid (string_any _ (sumB []))); (with_reducible refine hcall_.out.mono ?_); clear hcall_) | (with_reducible refine (string_any _ (sumB [])).mono ?_)); rintro e_ w2_ ⟨rfl, hb_⟩; (have hq_ := HH.out.grow hb_); clear HH; have HH := hid hq_; clear hq_ hb_)
        | (go_at_call 41; (first | ((have hcall_ := hid (string_any _ (sumB [97, 98, 99]))); (with_reducible refine hcall_.out.mono ?_); clear hcall_) | (with_reducible refine (string_any _ (sumB [97, 98, 99])).mono ?_)); rintro e_ w2_ ⟨rfl, hb_⟩; (have hq_ := HH.out.grow hb_); clear HH; have HH := hid hq_; clear hq_ hb_)
        | (go_at_call 41; (first | ((have hcall_ := hid (string_any _ (sumB [97, 98, 99, 100, 98, 99, 100, 101, 99, 100, 101, 102, 100, 101, 102, 103, 101, 102, 103, 104, 102, 103, 104, 105, 103, 104, 105, 106, 104, 105, 106, 107, 105, 106, 107, 108, 106, 107, 108, 109, 107, 108, 109, 110, 108, 109, 110, 111, 109, 110, 111, 112, 110, 111, 112, 113]))); (with_reducible refine hcall_.out.mono ?_); clear hcall_) | (with_reducible refine (string_any _ (sumB [97, 98, 99, 100, 98, 99, 100, 101, 99, 100, 101, 102, 100, 101, 102, 103, 101, 102, 103, 104, 102, 103, 104, 105, 103, 104, 105, 106, 104, 105, 106, 107, 105, 106, 107, 108, 106, 107, 108, 109, 107, 108, 109, 110, 108, 109, 110, 111, 109, 110, 111, 112, 110, 111, 112, 113])).mono ?_)); rintro e_ w2_ ⟨rfl, hb_⟩; (have hq_ := HH.out.grow hb_); clear HH; have HH := hid hq_; clear hq_ hb_)
        | ((with_reducible apply wpL_eqlStr (dst := some 3) (b := true) Try.underlying9); rfl; rfl; (exact E1.out); rfl)
        | ((with_reducible apply wpL_eqlStr (dst := some 9) (b := true) Try.underlying9); rfl; rfl; (exact E2.out); rfl)
        | ((with_reducible apply wpL_eqlStr (dst := some 16) (b := true) Try.underlying9); rfl; rfl; (exact E3.out); rfl)
        | ((with_reducible apply wpL_buildB [97, 98, 99] (dst := some 5)); rfl; rfl; (exact (by omega)); (exact HH.out); rfl; (intro g_ w_ hq_; clear HH; have HH := hid hq_; clear hq_))
        | ((with_reducible apply wpL_buildB [97, 98, 99, 100, 98, 99, 100, 101, 99, 100, 101, 102, 100, 101, 102, 103, 101, 102, 103, 104, 102, 103, 104, 105, 103, 104, 105, 106, 104, 105, 106, 107, 105, 106, 107, 108, 106, 107, 108, 109, 107, 108, 109, 110, 108, 109, 110, 111, 109, 110, 111, 112, 110, 111, 112, 113] (dst := some 12)); rfl; rfl; (exact (by omega)); (exact HH.out); rfl; (intro g_ w_ hq_; clear HH; have HH := hid hq_; clear hq_))
        | ((with_reducible apply wpL_convConst (dst := some 6) (l := [97, 98, 99]) Try.underlying22 Try.underlying5 HH.out); rfl; rfl; rfl; (intro w_ hq_ hb_; clear HH; have HH := hid hq_; have HB6 := hid hb_; clear hq_ hb_))
        | ((with_reducible apply wpL_convConst (dst := some 13) (l := [97, 98, 99, 100, 98, 99, 100, 101, 99, 100, 101, 102, 100, 101, 102, 103, 101, 102, 103, 104, 102, 103, 104, 105, 103, 104, 105, 106, 104, 105, 106, 107, 105, 106, 107, 108, 106, 107, 108, 109, 107, 108, 109, 110, 108, 109, 110, 111, 109, 110, 111, 112, 110, 111, 112, 113]) Try.underlying22 Try.underlying5 HH.out); rfl; rfl; rfl; (intro w_ hq_ hb_; clear HH; have HH := hid hq_; have HB13 := hid hb_; clear hq_ hb_))
        | ((with_reducible apply wpL_nilCheck); rfl; rfl)
        | ((with_reducible apply wpL_move); rfl; rfl)
        | ((with_reducible apply wpL_assign); rfl; rfl)
        | ((with_reducible apply wpL_pick); rfl; rfl; rfl)
        | ((with_reducible apply wpL_not); rfl; rfl)
        | ((with_reducible apply wpL_cmp (b := true)); rfl; rfl; rfl; (first | rfl | assumption | (simp only [cmpB, decide_eq_true_eq, decide_eq_false_iff_not, beq_iff_eq, bne_iff_ne, ne_eq, beq_eq_false_iff_ne, bne_eq_false_iff_eq, gt_iff_lt, ge_iff_le]; omega) | (simp; omega)); rfl)
        | ((with_reducible apply wpL_cmp (b := false)); rfl; rfl; rfl; (first | rfl | assumption | (simp only [cmpB, decide_eq_true_eq, decide_eq_false_iff_not, beq_iff_eq, bne_iff_ne, ne_eq, beq_eq_false_iff_ne, bne_eq_false_iff_eq, gt_iff_lt, ge_iff_le]; omega) | (simp; omega)); rfl)
        | ((with_reducible apply wpL_cmp); rfl; rfl; rfl; rfl; rfl)
        | ((with_reducible apply wpL_arith); rfl; rfl; rfl; (exact IntWalk.i64_in _ (by (try simp only [arithI]); omega)); rfl)); (try simp only [arithI, Act.put, Act.eval, List.setIfInBounds_toArray, List.set_cons_succ, List.set_cons_zero, Array.getD_eq_getD_getElem?, List.getElem?_toArray, List.getElem?_cons_succ, List.getElem?_cons_zero, Option.getD_some])))
  go_ret
  exact RetB.mk rfl HH.out.below
end Go.Proofs.Ytgkfopodhikckaa
