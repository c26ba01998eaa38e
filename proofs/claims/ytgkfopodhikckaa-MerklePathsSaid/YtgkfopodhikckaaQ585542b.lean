/- Paths of merkle and its iterator: whatever the loop's body does to its own memory. Condition: at most 10^9 leaves. -/
import Derived.Test.YtgkfopodhikckaaQfca0050
import Derived.Deep.Strs
import Derived.RangeFuncFrom
import Derived.RangeFuncLeaves
import Derived.RangeFuncBound
import Derived.RangeFuncCalls
import Derived.OrdersIn
set_option linter.unusedSimpArgs false
set_option linter.unusedVariables false
/- climb of merkle. Condition: a path of at most ten nodes. -/
namespace Go.Proofs.Ytgkfopodhikckaa
open Go.RowKit
attribute [local irreducible] wpQuiet wpList
def ClimbRel (w0 : World) (S : List Nat) (bsOf : Nat → List (Nat × Obj)) (rows : List Row) (i : Nat) (x : Nd) (p : List Nd) (g4 g8 : Nat) (kv : Value) (wr : World) : Prop :=
  ∃ k : Nat, k ≤ p.length ∧ kv = .int .i64 k ∧ Holds w0 S ((g8, objC Nd0.cells 34) :: (g4, objC (curAt i x p k).cells 34) :: bsOf k) rows wr
def CJ4 (w0 : World) (S : List Nat) (bs : List (Nat × Obj)) (rows : List Row) (c s : Nd) (l : Nat → Bool) (sl : Nat → Value) (w : World) : Prop :=
  Holds w0 S (optB (l 2) (blkF (sl 11), selO (l 4) (objC Nd0.cells 34) (objC c.cells 34)) (optB (l 3) (blkF (sl 12), selO (l 5) (objC Nd0.cells 34) (objC s.cells 34)) bs)) rows w
def CJ6 (w0 : World) (S : List Nat) (bs : List (Nat × Obj)) (rows : List Row) (c s : Nd) (g11 g12 : Nat) (l : Nat → Bool) (sl : Nat → Value) (w : World) : Prop :=
  Holds w0 S ((g11, selO (l 2) (objC c.cells 34) (objC s.cells 34)) :: (g12, selO (l 3) (objC s.cells 34) (objC c.cells 34)) :: bs) rows w
section
variable {P : Program} {w0 w : World} {S : List Nat} {bs : List (Nat × Obj)} {rows : List Row} {c s : Nd} {l : Nat → Bool} {a : Act}
set_option maxRecDepth 100000 in
theorem cj4_2 {pos : String} {ty : TypeId} {after : Array Edge} {guard : Option (Nat × Bool)} (hJ : CJ4 w0 S bs rows c s l (slF a) w) (h2 : l 2 = false) (h4 : l 4 = false) :
    OpOK Try.prog { dst := some 11, op := .alloc 34, type := ty, pos := pos, after := after, guard := guard } a w (fun v w' => CJ4 w0 S bs rows c s (upd l 2) (updS (slF a) 11 v) w' ∧ isPtr v) := by
  unfold CJ4 at hJ
  rw [h2, optB_f] at hJ
  refine ok_alloc (zs := (Arr.zero 16).cells) kZ34 hJ (fun g w' h' => ?_)
  refine ⟨?_, ⟨g, rfl⟩⟩
  show Holds w0 S ((g, selO (l 4) _ _) :: optB (l 3) _ bs) rows w'
  rw [h4]
  exact h'
set_option maxRecDepth 100000 in
theorem cj4_3 {pos : String} {ty : TypeId} {after : Array Edge} {guard : Option (Nat × Bool)} (hJ : CJ4 w0 S bs rows c s l (slF a) w) (h3 : l 3 = false) (h5 : l 5 = false) :
    OpOK Try.prog { dst := some 12, op := .alloc 34, type := ty, pos := pos, after := after, guard := guard } a w (fun v w' => CJ4 w0 S bs rows c s (upd l 3) (updS (slF a) 12 v) w' ∧ isPtr v) := by
  unfold CJ4 at hJ
  rw [h3, optB_f] at hJ
  refine ok_alloc (zs := (Arr.zero 16).cells) kZ34 hJ (fun g w' h' => ?_)
  refine ⟨?_, ⟨g, rfl⟩⟩
  show Holds w0 S (optB (l 2) _ ((g, selO (l 5) _ _) :: bs)) rows w'
  rw [h5]
  exact h'.permB optB_perm
set_option maxRecDepth 100000 in
theorem cj4_4 {pos : String} {ty : TypeId} {after : Array Edge} {guard : Option (Nat × Bool)} (hJ : CJ4 w0 S bs rows c s l (slF a) w) (h2 : l 2 = true) (h4 : l 4 = false) (e1 : isPtr (a.eval (.tmp 11))) (e2 : a.eval (.tmp 20) = c.val) :
    OpOK Try.prog { dst := none, op := .store 34 (.tmp 11) (.tmp 20), type := ty, pos := pos, after := after, guard := guard } a w (fun v w' => CJ4 w0 S bs rows c s (upd l 4) (slF a) w' ∧ True) := by
  obtain ⟨g, hg⟩ := e1
  have hs : slF a 11 = .pointer (some ⟨g, 0, none⟩) := hg
  unfold CJ4 at hJ
  rw [h2, h4, hs] at hJ
  refine ok_store (vs := c.cells) (cs := Nd0.cells) (e := 34) hg e2 kS34 hJ .here (Arr.len _) (cells_one _) (Arr.len _) fun w' h' => ⟨?_, trivial⟩
  show Holds w0 S (optB (l 2) (blkF (slF a 11), _) (optB (l 3) _ bs)) rows w'
  rw [h2, hs]
  exact h'
set_option maxRecDepth 100000 in
theorem cj4_5 {pos : String} {ty : TypeId} {after : Array Edge} {guard : Option (Nat × Bool)} (hJ : CJ4 w0 S bs rows c s l (slF a) w) (h3 : l 3 = true) (h5 : l 5 = false) (e1 : isPtr (a.eval (.tmp 12))) (e2 : a.eval (.tmp 21) = s.val) :
    OpOK Try.prog { dst := none, op := .store 34 (.tmp 12) (.tmp 21), type := ty, pos := pos, after := after, guard := guard } a w (fun v w' => CJ4 w0 S bs rows c s (upd l 5) (slF a) w' ∧ True) := by
  obtain ⟨g, hg⟩ := e1
  have hs : slF a 12 = .pointer (some ⟨g, 0, none⟩) := hg
  unfold CJ4 at hJ
  rw [h3, h5, hs] at hJ
  refine ok_store (vs := s.cells) (cs := Nd0.cells) (e := 34) hg e2 kS34 hJ (Turn.opt .here) (Arr.len _) (cells_one _) (Arr.len _) fun w' h' => ⟨?_, trivial⟩
  show Holds w0 S (optB (l 2) _ (optB (l 3) (blkF (slF a 12), _) bs)) rows w'
  rw [h3, hs]
  exact h'
set_option maxRecDepth 100000 in
theorem cj6_2 {g11 g12 : Nat} {pos : String} {ty : TypeId} {after : Array Edge} {guard : Option (Nat × Bool)} (hJ : CJ6 w0 S bs rows c s g11 g12 l (slF a) w) (h2 : l 2 = false) (e1 : a.eval (.tmp 11) = .pointer (some ⟨g11, 0, none⟩)) (e2 : a.eval (.tmp 27) = s.val) :
    OpOK Try.prog { dst := none, op := .store 34 (.tmp 11) (.tmp 27), type := ty, pos := pos, after := after, guard := guard } a w (fun v w' => CJ6 w0 S bs rows c s g11 g12 (upd l 2) (slF a) w' ∧ True) := by
  unfold CJ6 at hJ
  rw [h2] at hJ
  exact ok_store (vs := s.cells) (cs := c.cells) (e := 34) e1 e2 kS34 hJ .here (Arr.len _) (cells_one _) (Arr.len _) fun w' h' => ⟨h', trivial⟩
set_option maxRecDepth 100000 in
theorem cj6_3 {g11 g12 : Nat} {pos : String} {ty : TypeId} {after : Array Edge} {guard : Option (Nat × Bool)} (hJ : CJ6 w0 S bs rows c s g11 g12 l (slF a) w) (h3 : l 3 = false) (e1 : a.eval (.tmp 12) = .pointer (some ⟨g12, 0, none⟩)) (e2 : a.eval (.tmp 28) = c.val) :
    OpOK Try.prog { dst := none, op := .store 34 (.tmp 12) (.tmp 28), type := ty, pos := pos, after := after, guard := guard } a w (fun v w' => CJ6 w0 S bs rows c s g11 g12 (upd l 3) (slF a) w' ∧ True) := by
  unfold CJ6 at hJ
  rw [h3] at hJ
  exact ok_store (vs := c.cells) (cs := s.cells) (e := 34) e1 e2 kS34 hJ (.there .here) (Arr.len _) (cells_one _) (Arr.len _) fun w' h' => ⟨h', trivial⟩
end
theorem curAt_succ (i : Nat) (x : Nd) (p : List Nd) (k : Nat) : curAt i x p (k + 1) = joinN ((k : Int) + 1) (pairC i k (curAt i x p k) (p.getD k Nd0)).1 (pairC i k (curAt i x p k) (p.getD k Nd0)).2 := rfl
set_option maxRecDepth 100000 in
set_option maxHeartbeats 4000000 in
theorem climb_any (w0 w : World) (S : List Nat) (bsOf : Nat → List (Nat × Obj)) (rows : List Row) (f : FuncId) (cap : Array Value) (hf : Body Try.prog f) (v : Value) (x : Nd) (p : List Nd) (i : Nat)
    (hp : ∀ bs w1, Holds w0 S bs rows w1 → Arrs w1 v p) (hlen : p.length ≤ 10) (hi : i ≤ 1024) (hH : Holds w0 S (bsOf 0) rows w)
    (hvis : ∀ k, k < p.length → ∀ ex w1, Holds w0 S (ex ++ bsOf k) rows w1 →
      Calls Try.prog f (#[.int .i64 ((k : Int) + 1), (pairC i k (curAt i x p k) (p.getD k Nd0)).1.val, (pairC i k (curAt i x p k) (p.getD k Nd0)).2.val] ++ cap) w1 (fun e w2 => e = .returned (.tuple #[]) ∧ Holds w0 S (ex ++ bsOf (k + 1)) rows w2)) :
    Calls Try.prog 73 #[x.val, .int .i64 i, v, .func (.func f) #[] cap] w (fun e w' => e = .returned (curAt i x p p.length).val ∧ Holds w0 S (bsOf p.length) rows w') := by
  obtain ⟨ao, cap0, rfl, _⟩ := (hp _ _ hH).shape
  have HP := hid hp
  have HV := hid hvis
  have HH := hid hH
  have HI := hid hi
  have HF := hid hf
  clear hp hvis hH
  go_enter Try.func73, Try.ntmps73
  go_wp2_with (first
    | ((first
        | ((with_reducible apply wpL_skip); rfl; skip)
        | ((with_reducible apply wpL_nilCheck); rfl; rfl)
        | ((with_reducible apply wpL_loadArr (t := 34) kA34 HH.out); rfl; (first | exact .here | exact .there .here | exact .there (.there .here) | exact .there (.there (.there .here)) | exact .there (.there (.there (.there .here))) | exact .there (.there (.there (.there (.there .here)))) | exact .there (.there (.there (.there (.there (.there .here))))) | exact .there (.there (.there (.there (.there (.there (.there .here))))))); rfl)
        | ((with_reducible apply wpL_loadC (t := 34) kA34 HH.out); rfl; (first | exact .here | exact .there .here | exact .there (.there .here) | exact .there (.there (.there .here)) | exact .there (.there (.there (.there .here))) | exact .there (.there (.there (.there (.there .here)))) | exact .there (.there (.there (.there (.there (.there .here))))) | exact .there (.there (.there (.there (.there (.there (.there .here))))))); (first | rfl | exact Arr.len _ | (simp; done)); rfl)
        | ((with_reducible apply wpL_len (t := 46) Try.underlying46); rfl; rfl)
        | ((with_reducible apply wpL_boxArr (dst := some 4)); rfl; (exact HH.out); rfl; (intro g4_ w_ hq_; (try simp only [List.set_cons_zero, List.set_cons_succ] at hq_); clear HH; have HH := hid hq_; clear hq_))
        | ((with_reducible apply wpL_allocC (dst := some 8) kZ34 HH.out); rfl; (intro g8_ w_ hq_; (try simp only [List.set_cons_zero, List.set_cons_succ] at hq_); clear HH; have HH := hid hq_; clear hq_))
        | ((with_reducible apply wpL_allocC (dst := some 10) kZ34 HH.out); rfl; (intro g10_ w_ hq_; (try simp only [List.set_cons_zero, List.set_cons_succ] at hq_); clear HH; have HH := hid hq_; clear hq_))
        | ((with_reducible apply wpL_allocC (dst := some 11) kZ34 HH.out); rfl; (intro g11_ w_ hq_; (try simp only [List.set_cons_zero, List.set_cons_succ] at hq_); clear HH; have HH := hid hq_; clear hq_))
        | ((with_reducible apply wpL_allocC (dst := some 12) kZ34 HH.out); rfl; (intro g12_ w_ hq_; (try simp only [List.set_cons_zero, List.set_cons_succ] at hq_); clear HH; have HH := hid hq_; clear hq_))
        | ((with_reducible apply wpL_storeArr (t := 34) kS34 HH.out); rfl; rfl; (first | exact .here | exact .there .here | exact .there (.there .here) | exact .there (.there (.there .here)) | exact .there (.there (.there (.there .here))) | exact .there (.there (.there (.there (.there .here)))) | exact .there (.there (.there (.there (.there (.there .here))))) | exact .there (.there (.there (.there (.there (.there (.there .here))))))); (first | rfl | exact Arr.len _ | (simp; done)); rfl; (intro w_ hq_; (try simp only [List.set_cons_zero, List.set_cons_succ] at hq_); clear HH; have HH := hid hq_; clear hq_))
        | ((with_reducible apply wpL_storeC (t := 34)); rfl; rfl; (exact kS34); (exact HH.out); (first | exact .here | exact .there .here | exact .there (.there .here) | exact .there (.there (.there .here)) | exact .there (.there (.there (.there .here))) | exact .there (.there (.there (.there (.there .here)))) | exact .there (.there (.there (.there (.there (.there .here))))) | exact .there (.there (.there (.there (.there (.there (.there .here))))))); (first | rfl | exact Arr.len _ | (simp; done)); (first | rfl | (intro u_ hu_; simp only [List.mem_cons, List.not_mem_nil, or_false] at hu_; rcases hu_ with rfl | hu_; rfl) | exact byt_cell1 _ | exact cells_one _ | exact wrd_one _ | exact flat_cell1 _); (first | rfl | exact Arr.len _ | (simp; done)); rfl; (intro w_ hq_; (try simp only [List.set_cons_zero, List.set_cons_succ] at hq_); clear HH; have HH := hid hq_; clear hq_))
        | ((with_reducible apply wpL_move); rfl; rfl)
        | ((with_reducible apply wpL_assign); rfl; rfl)
        | ((with_reducible apply wpL_pick); rfl; rfl; rfl)
        | ((with_reducible apply wpL_not); rfl; rfl)
        | ((with_reducible apply wpL_cmp (b := true)); rfl; rfl; rfl; (first | rfl | assumption | (simp only [cmpB, decide_eq_true_eq, decide_eq_false_iff_not, beq_iff_eq, bne_iff_ne, ne_eq, beq_eq_false_iff_ne, bne_eq_false_iff_eq, gt_iff_lt, ge_iff_le]; omega) | (simp; omega)); rfl)
        | ((with_reducible apply wpL_cmp (b := false)); rfl; rfl; rfl; (first | rfl | assumption | (simp only [cmpB, decide_eq_true_eq, decide_eq_false_iff_not, beq_iff_eq, bne_iff_ne, ne_eq, beq_eq_false_iff_ne, bne_eq_false_iff_eq, gt_iff_lt, ge_iff_le]; omega) | (simp; omega)); rfl)
        | ((with_reducible apply wpL_cmp); rfl; rfl; rfl; rfl; rfl)
        | ((with_reducible apply wpL_arith); rfl; rfl; rfl; (exact IntWalk.i64_in _ (by (try simp only [arithI]); omega)); rfl)); (try simp only [arithI, Act.put, Act.eval, List.setIfInBounds_toArray, List.set_cons_succ, List.set_cons_zero, Array.getD_eq_getD_getElem?, List.getElem?_toArray, List.getElem?_cons_succ, List.getElem?_cons_zero, Option.getD_some])))
  go_loopw [15] (ClimbRel w0 S bsOf rows i x p g4_ g8_) (fun kv _ => p.length - (intOf kv).toNat)
  case atStart => exact ⟨0, Nat.zero_le _, rfl, HH.out⟩
  case round =>
    obtain ⟨k, hk, rfl, hr⟩ := hrel
    clear HH
    have HH := hid hr
    clear hr
    by_cases hlt : k < p.length
    · obtain ⟨c, hc⟩ : ∃ c, curAt i x p k = c := ⟨_, rfl⟩
      obtain ⟨s, hs⟩ : ∃ s, p.getD k Nd0 = s := ⟨_, rfl⟩
      have hv := HV.out k hlt
      have hst := curAt_succ i x p k
      rw [hc, hs] at hv hst
      have hh := HH.out
      rw [hc] at hh
      clear HH
      have HH := hid hh
      clear hh hc
      have HS := hid hs
      obtain ⟨ad, cap', e⟩ := (HP.out _ _ HH.out).some (by omega)
      cases e
      have HAR := hid (fun w1 (h1 : ∃ bs, Holds w0 S bs rows w1) => get_as (show Arrs w1 (.slice (some ad) p.length cap0) p from HP.out _ _ h1.choose_spec) hlt (show p[k] = s by rw [← hs]; simp [hlt]))
      clear hs
      go_wp2_with (first
        | ((first
            | ((with_reducible apply wpL_skip); rfl; skip)
            | ((with_reducible apply wpL_idx (dst := some 18) (j := k) kE46); rfl; rfl; rfl; (exact hlt); rfl)
            | ((with_reducible apply wpL_loadEl (dst := some 19) (v := s) kA34 (HAR.out _ ⟨_, HH.out⟩)); rfl; rfl)
            | ((with_reducible apply wpL_nilCheck); rfl; rfl)
            | ((with_reducible apply wpL_loadArr (t := 34) kA34 HH.out); rfl; (first | exact .here | exact .there .here | exact .there (.there .here) | exact .there (.there (.there .here)) | exact .there (.there (.there (.there .here))) | exact .there (.there (.there (.there (.there .here)))) | exact .there (.there (.there (.there (.there (.there .here))))) | exact .there (.there (.there (.there (.there (.there (.there .here))))))); rfl)
            | ((with_reducible apply wpL_loadC (t := 34) kA34 HH.out); rfl; (first | exact .here | exact .there .here | exact .there (.there .here) | exact .there (.there (.there .here)) | exact .there (.there (.there (.there .here))) | exact .there (.there (.there (.there (.there .here)))) | exact .there (.there (.there (.there (.there (.there .here))))) | exact .there (.there (.there (.there (.there (.there (.there .here))))))); (first | rfl | exact Arr.len _ | (simp; done)); rfl)
            | ((with_reducible apply wpL_len (t := 46) Try.underlying46); rfl; rfl)
            | ((with_reducible apply wpL_boxArr (dst := some 4)); rfl; (exact HH.out); rfl; (intro g4_ w_ hq_; (try simp only [List.set_cons_zero, List.set_cons_succ] at hq_); clear HH; have HH := hid hq_; clear hq_))
            | ((with_reducible apply wpL_allocC (dst := some 8) kZ34 HH.out); rfl; (intro g8_ w_ hq_; (try simp only [List.set_cons_zero, List.set_cons_succ] at hq_); clear HH; have HH := hid hq_; clear hq_))
            | ((with_reducible apply wpL_allocC (dst := some 10) kZ34 HH.out); rfl; (intro g10_ w_ hq_; (try simp only [List.set_cons_zero, List.set_cons_succ] at hq_); clear HH; have HH := hid hq_; clear hq_))
            | ((with_reducible apply wpL_allocC (dst := some 11) kZ34 HH.out); rfl; (intro g11_ w_ hq_; (try simp only [List.set_cons_zero, List.set_cons_succ] at hq_); clear HH; have HH := hid hq_; clear hq_))
            | ((with_reducible apply wpL_allocC (dst := some 12) kZ34 HH.out); rfl; (intro g12_ w_ hq_; (try simp only [List.set_cons_zero, List.set_cons_succ] at hq_); clear HH; have HH := hid hq_; clear hq_))
            | ((with_reducible apply wpL_storeArr (t := 34) kS34 HH.out); rfl; rfl; (first | exact .here | exact .there .here | exact .there (.there .here) | exact .there (.there (.there .here)) | exact .there (.there (.there (.there .here))) | exact .there (.there (.there (.there (.there .here)))) | exact .there (.there (.there (.there (.there (.there .here))))) | exact .there (.there (.there (.there (.there (.there (.there .here))))))); (first | rfl | exact Arr.len _ | (simp; done)); rfl; (intro w_ hq_; (try simp only [List.set_cons_zero, List.set_cons_succ] at hq_); clear HH; have HH := hid hq_; clear hq_))
            | ((with_reducible apply wpL_storeC (t := 34)); rfl; rfl; (exact kS34); (exact HH.out); (first | exact .here | exact .there .here | exact .there (.there .here) | exact .there (.there (.there .here)) | exact .there (.there (.there (.there .here))) | exact .there (.there (.there (.there (.there .here)))) | exact .there (.there (.there (.there (.there (.there .here))))) | exact .there (.there (.there (.there (.there (.there (.there .here))))))); (first | rfl | exact Arr.len _ | (simp; done)); (first | rfl | (intro u_ hu_; simp only [List.mem_cons, List.not_mem_nil, or_false] at hu_; rcases hu_ with rfl | hu_; rfl) | exact byt_cell1 _ | exact cells_one _ | exact wrd_one _ | exact flat_cell1 _); (first | rfl | exact Arr.len _ | (simp; done)); rfl; (intro w_ hq_; (try simp only [List.set_cons_zero, List.set_cons_succ] at hq_); clear HH; have HH := hid hq_; clear hq_))
            | ((with_reducible apply wpL_move); rfl; rfl)
            | ((with_reducible apply wpL_assign); rfl; rfl)
            | ((with_reducible apply wpL_pick); rfl; rfl; rfl)
            | ((with_reducible apply wpL_not); rfl; rfl)
            | ((with_reducible apply wpL_cmp (b := true)); rfl; rfl; rfl; (first | rfl | assumption | (simp only [cmpB, decide_eq_true_eq, decide_eq_false_iff_not, beq_iff_eq, bne_iff_ne, ne_eq, beq_eq_false_iff_ne, bne_eq_false_iff_eq, gt_iff_lt, ge_iff_le]; omega) | (simp; omega)); rfl)
            | ((with_reducible apply wpL_cmp (b := false)); rfl; rfl; rfl; (first | rfl | assumption | (simp only [cmpB, decide_eq_true_eq, decide_eq_false_iff_not, beq_iff_eq, bne_iff_ne, ne_eq, beq_eq_false_iff_ne, bne_eq_false_iff_eq, gt_iff_lt, ge_iff_le]; omega) | (simp; omega)); rfl)
            | ((with_reducible apply wpL_cmp); rfl; rfl; rfl; rfl; rfl)
            | ((with_reducible apply wpL_arith); rfl; rfl; rfl; (exact IntWalk.i64_in _ (by (try simp only [arithI]); omega)); rfl)); (try simp only [arithI, Act.put, Act.eval, List.setIfInBounds_toArray, List.set_cons_succ, List.set_cons_zero, Array.getD_eq_getD_getElem?, List.getElem?_toArray, List.getElem?_cons_succ, List.getElem?_cons_zero, Option.getD_some])))
      refine wp_region_F [(fun u_ => u_ = c.val), (fun u_ => u_ = s.val), (isPtr), (isPtr), (fun _ => True), (fun _ => True)] (CJ4 w0 S ((g10_, objC s.cells 34) :: (g8_, objC Nd0.cells 34) :: (g4_, objC c.cells 34) :: bsOf k) rows c s) (by kernel_rfl) (by kernel_rfl) rfl (HH.out.drew) ?_ ?_
      · refine eachD_cons ?_ (eachD_cons ?_ (eachD_cons ?_ (eachD_cons ?_ (eachD_cons ?_ (eachD_cons ?_ (eachD_nil))))))
        · intro li_ a_ w1 hc hi hJ hF hS
          have e4 : a_.eval (.tmp 4) = (.pointer (some ⟨g4_, 0, none⟩)) := (hF.2.2 4 (notDst_of (by kernel_rfl))).trans rfl
          refine wantD (by rfl) ?_
          exact ok_load kA34 hJ e4 (Own.opt (Own.opt (.there (.there .here)))) (Arr.len _) ⟨hJ, rfl⟩
        · intro li_ a_ w1 hc hi hJ hF hS
          have e10 : a_.eval (.tmp 10) = (.pointer (some ⟨g10_, 0, none⟩)) := (hF.2.2 10 (notDst_of (by kernel_rfl))).trans rfl
          refine wantD (by rfl) ?_
          exact ok_load kA34 hJ e10 (Own.opt (Own.opt .here)) (Arr.len _) ⟨hJ, rfl⟩
        · intro li_ a_ w1 hc hi hJ hF hS
          refine wantD (by rfl) ?_
          exact cj4_2 hJ hi (hc.off (j := 4) (by kernel_rfl) hi)
        · intro li_ a_ w1 hc hi hJ hF hS
          refine wantD (by rfl) ?_
          exact cj4_3 hJ hi (hc.off (j := 5) (by kernel_rfl) hi)
        · intro li_ a_ w1 hc hi hJ hF hS
          have l2 : li_ 2 = true := (hS ⟨2, .data⟩ (by simp) rfl).1
          have l0 : li_ 0 = true := (hS ⟨0, .data⟩ (by simp) rfl).1
          have l3 : li_ 3 = true := (hS ⟨3, .phase⟩ (by simp) rfl).1
          have e11 : (isPtr) (a_.eval (.tmp 11)) := (hS ⟨2, .data⟩ (by simp) rfl).2 _ rfl
          have e20 : a_.eval (.tmp 20) = c.val := (hS ⟨0, .data⟩ (by simp) rfl).2 _ rfl
          refine wantD (by rfl) ?_
          exact cj4_4 hJ l2 hi e11 e20
        · intro li_ a_ w1 hc hi hJ hF hS
          have l3 : li_ 3 = true := (hS ⟨3, .data⟩ (by simp) rfl).1
          have l1 : li_ 1 = true := (hS ⟨1, .data⟩ (by simp) rfl).1
          have l4 : li_ 4 = true := (hS ⟨4, .chain⟩ (by simp) rfl).1
          have l0 : li_ 0 = true := (hS ⟨0, .phase⟩ (by simp) rfl).1
          have l2 : li_ 2 = true := (hS ⟨2, .phase⟩ (by simp) rfl).1
          have e12 : (isPtr) (a_.eval (.tmp 12)) := (hS ⟨3, .data⟩ (by simp) rfl).2 _ rfl
          have e21 : a_.eval (.tmp 21) = s.val := (hS ⟨1, .data⟩ (by simp) rfl).2 _ rfl
          refine wantD (by rfl) ?_
          exact cj4_5 hJ l3 hi e12 e21
      intro v0_ h0_ v1_ h1_ v2_ h2_ v3_ h3_ v4_ h4_ v5_ h5_
      intro wq hq_
      have q_ : v0_ = c.val := h0_; clear h0_; subst q_
      have q_ : v1_ = s.val := h1_; clear h1_; subst q_
      obtain ⟨g11_, rfl⟩ := h2_
      obtain ⟨g12_, rfl⟩ := h3_
      clear h4_
      clear h5_
      have HQ := hid hq_; clear hq_
      simp only [putsD, Act.put, List.setIfInBounds_toArray, List.set_cons_succ, List.set_cons_zero]
      have hq2_ : Holds w0 S ((g11_, objC c.cells 34) :: (g12_, objC s.cells 34) :: (g10_, objC s.cells 34) :: (g8_, objC Nd0.cells 34) :: (g4_, objC c.cells 34) :: bsOf k) rows wq := HQ.out
      clear HH HQ
      have HH := hid hq2_
      clear hq2_
      obtain ⟨q, hq1⟩ : ∃ q, i / 2 ^ k = q := ⟨_, rfl⟩
      have hq10 : q ≤ 1024 := by rw [← hq1]; exact Nat.le_trans (Nat.div_le_self _ _) hi
      have HQ1 := hid hq1
      have HB1 := hid (show q < 2 ^ IntKind.i64.bits from Nat.lt_of_lt_of_le (show q < 1025 by omega) (by decide))
      clear hq1
      by_cases hbit : (i / 2 ^ k) % 2 = 1
      · have hpair : pairC i k c s = (s, c) := by unfold pairC; rw [if_pos hbit]
        rw [hpair] at hv hst
        obtain ⟨c2, hc2⟩ : ∃ c2, joinN ((k : Int) + 1) s c = c2 := ⟨_, rfl⟩
        have HC2 := hid hc2
        have HST := hid (show curAt i x p (k + 1) = c2 by rw [hst]; exact hc2)
        have HVIS := hid hv
        have HAND := hid (show q &&& 1 = 1 by rw [Nat.and_one_is_mod, ← HQ1.out]; exact hbit)
        clear hpair hv hst hc2 hbit
        go_wp2_with (first
          | ((first
              | ((with_reducible apply wpL_skip); rfl; skip)
              | ((with_reducible apply wpL_shrI (m := i) (k := k) (r := q)); rfl; rfl; rfl; rfl; (exact (by omega)); (exact HQ1.out); rfl)
              | ((with_reducible apply wpL_and (m := q) (n := 1) (r := 1)); rfl; rfl; rfl; rfl; (exact HB1.out); (exact (by decide)); (exact HAND.out); (exact (by decide)); rfl)
              | ((with_reducible apply wpL_nilCheck); rfl; rfl)
              | ((with_reducible apply wpL_loadArr (t := 34) kA34 HH.out); rfl; (first | exact .here | exact .there .here | exact .there (.there .here) | exact .there (.there (.there .here)) | exact .there (.there (.there (.there .here))) | exact .there (.there (.there (.there (.there .here)))) | exact .there (.there (.there (.there (.there (.there .here))))) | exact .there (.there (.there (.there (.there (.there (.there .here))))))); rfl)
              | ((with_reducible apply wpL_loadC (t := 34) kA34 HH.out); rfl; (first | exact .here | exact .there .here | exact .there (.there .here) | exact .there (.there (.there .here)) | exact .there (.there (.there (.there .here))) | exact .there (.there (.there (.there (.there .here)))) | exact .there (.there (.there (.there (.there (.there .here))))) | exact .there (.there (.there (.there (.there (.there (.there .here))))))); (first | rfl | exact Arr.len _ | (simp; done)); rfl)
              | ((with_reducible apply wpL_len (t := 46) Try.underlying46); rfl; rfl)
              | ((with_reducible apply wpL_boxArr (dst := some 4)); rfl; (exact HH.out); rfl; (intro g4_ w_ hq_; (try simp only [List.set_cons_zero, List.set_cons_succ] at hq_); clear HH; have HH := hid hq_; clear hq_))
              | ((with_reducible apply wpL_allocC (dst := some 8) kZ34 HH.out); rfl; (intro g8_ w_ hq_; (try simp only [List.set_cons_zero, List.set_cons_succ] at hq_); clear HH; have HH := hid hq_; clear hq_))
              | ((with_reducible apply wpL_allocC (dst := some 10) kZ34 HH.out); rfl; (intro g10_ w_ hq_; (try simp only [List.set_cons_zero, List.set_cons_succ] at hq_); clear HH; have HH := hid hq_; clear hq_))
              | ((with_reducible apply wpL_allocC (dst := some 11) kZ34 HH.out); rfl; (intro g11_ w_ hq_; (try simp only [List.set_cons_zero, List.set_cons_succ] at hq_); clear HH; have HH := hid hq_; clear hq_))
              | ((with_reducible apply wpL_allocC (dst := some 12) kZ34 HH.out); rfl; (intro g12_ w_ hq_; (try simp only [List.set_cons_zero, List.set_cons_succ] at hq_); clear HH; have HH := hid hq_; clear hq_))
              | ((with_reducible apply wpL_storeArr (t := 34) kS34 HH.out); rfl; rfl; (first | exact .here | exact .there .here | exact .there (.there .here) | exact .there (.there (.there .here)) | exact .there (.there (.there (.there .here))) | exact .there (.there (.there (.there (.there .here)))) | exact .there (.there (.there (.there (.there (.there .here))))) | exact .there (.there (.there (.there (.there (.there (.there .here))))))); (first | rfl | exact Arr.len _ | (simp; done)); rfl; (intro w_ hq_; (try simp only [List.set_cons_zero, List.set_cons_succ] at hq_); clear HH; have HH := hid hq_; clear hq_))
              | ((with_reducible apply wpL_storeC (t := 34)); rfl; rfl; (exact kS34); (exact HH.out); (first | exact .here | exact .there .here | exact .there (.there .here) | exact .there (.there (.there .here)) | exact .there (.there (.there (.there .here))) | exact .there (.there (.there (.there (.there .here)))) | exact .there (.there (.there (.there (.there (.there .here))))) | exact .there (.there (.there (.there (.there (.there (.there .here))))))); (first | rfl | exact Arr.len _ | (simp; done)); (first | rfl | (intro u_ hu_; simp only [List.mem_cons, List.not_mem_nil, or_false] at hu_; rcases hu_ with rfl | hu_; rfl) | exact byt_cell1 _ | exact cells_one _ | exact wrd_one _ | exact flat_cell1 _); (first | rfl | exact Arr.len _ | (simp; done)); rfl; (intro w_ hq_; (try simp only [List.set_cons_zero, List.set_cons_succ] at hq_); clear HH; have HH := hid hq_; clear hq_))
              | ((with_reducible apply wpL_move); rfl; rfl)
              | ((with_reducible apply wpL_assign); rfl; rfl)
              | ((with_reducible apply wpL_pick); rfl; rfl; rfl)
              | ((with_reducible apply wpL_not); rfl; rfl)
              | ((with_reducible apply wpL_cmp (b := true)); rfl; rfl; rfl; (first | rfl | assumption | (simp only [cmpB, decide_eq_true_eq, decide_eq_false_iff_not, beq_iff_eq, bne_iff_ne, ne_eq, beq_eq_false_iff_ne, bne_eq_false_iff_eq, gt_iff_lt, ge_iff_le]; omega) | (simp; omega)); rfl)
              | ((with_reducible apply wpL_cmp (b := false)); rfl; rfl; rfl; (first | rfl | assumption | (simp only [cmpB, decide_eq_true_eq, decide_eq_false_iff_not, beq_iff_eq, bne_iff_ne, ne_eq, beq_eq_false_iff_ne, bne_eq_false_iff_eq, gt_iff_lt, ge_iff_le]; omega) | (simp; omega)); rfl)
              | ((with_reducible apply wpL_cmp); rfl; rfl; rfl; rfl; rfl)
              | ((with_reducible apply wpL_arith); rfl; rfl; rfl; (exact IntWalk.i64_in _ (by (try simp only [arithI]); omega)); rfl)); (try simp only [arithI, Act.put, Act.eval, List.setIfInBounds_toArray, List.set_cons_succ, List.set_cons_zero, Array.getD_eq_getD_getElem?, List.getElem?_toArray, List.getElem?_cons_succ, List.getElem?_cons_zero, Option.getD_some])))
        refine wp_region_F [(fun u_ => u_ = s.val), (fun u_ => u_ = c.val), (fun _ => True), (fun _ => True)] (CJ6 w0 S ((g10_, objC s.cells 34) :: (g8_, objC Nd0.cells 34) :: (g4_, objC c.cells 34) :: bsOf k) rows c s g11_ g12_) (by kernel_rfl) (by kernel_rfl) rfl (HH.out.drew) ?_ ?_
        · refine eachD_cons ?_ (eachD_cons ?_ (eachD_cons ?_ (eachD_cons ?_ (eachD_nil))))
          · intro li_ a_ w1 hc hi hJ hF hS
            have e10 : a_.eval (.tmp 10) = (.pointer (some ⟨g10_, 0, none⟩)) := (hF.2.2 10 (notDst_of (by kernel_rfl))).trans rfl
            refine wantD (by rfl) ?_
            exact ok_load kA34 hJ e10 (.there (.there .here)) (Arr.len _) ⟨hJ, rfl⟩
          · intro li_ a_ w1 hc hi hJ hF hS
            have e4 : a_.eval (.tmp 4) = (.pointer (some ⟨g4_, 0, none⟩)) := (hF.2.2 4 (notDst_of (by kernel_rfl))).trans rfl
            refine wantD (by rfl) ?_
            exact ok_load kA34 hJ e4 (.there (.there (.there (.there .here)))) (Arr.len _) ⟨hJ, rfl⟩
          · intro li_ a_ w1 hc hi hJ hF hS
            have l0 : li_ 0 = true := (hS ⟨0, .data⟩ (by simp) rfl).1
            have e11 : a_.eval (.tmp 11) = (.pointer (some ⟨g11_, 0, none⟩)) := (hF.2.2 11 (notDst_of (by kernel_rfl))).trans rfl
            have e27 : a_.eval (.tmp 27) = s.val := (hS ⟨0, .data⟩ (by simp) rfl).2 _ rfl
            refine wantD (by rfl) ?_
            exact cj6_2 hJ hi e11 e27
          · intro li_ a_ w1 hc hi hJ hF hS
            have l1 : li_ 1 = true := (hS ⟨1, .data⟩ (by simp) rfl).1
            have l2 : li_ 2 = true := (hS ⟨2, .chain⟩ (by simp) rfl).1
            have l0 : li_ 0 = true := (hS ⟨0, .phase⟩ (by simp) rfl).1
            have e12 : a_.eval (.tmp 12) = (.pointer (some ⟨g12_, 0, none⟩)) := (hF.2.2 12 (notDst_of (by kernel_rfl))).trans rfl
            have e28 : a_.eval (.tmp 28) = c.val := (hS ⟨1, .data⟩ (by simp) rfl).2 _ rfl
            refine wantD (by rfl) ?_
            exact cj6_3 hJ hi e12 e28
        intro v0_ h0_ v1_ h1_ v2_ h2_ v3_ h3_
        intro wq hq_
        have q_ : v0_ = s.val := h0_; clear h0_; subst q_
        have q_ : v1_ = c.val := h1_; clear h1_; subst q_
        clear h2_
        clear h3_
        have HQ := hid hq_; clear hq_
        simp only [putsD, Act.put, List.setIfInBounds_toArray, List.set_cons_succ, List.set_cons_zero]
        have hq3_ : Holds w0 S ((g11_, objC s.cells 34) :: (g12_, objC c.cells 34) :: (g10_, objC s.cells 34) :: (g8_, objC Nd0.cells 34) :: (g4_, objC c.cells 34) :: bsOf k) rows wq := HQ.out
        clear HH HQ
        have HH := hid hq3_
        clear hq3_
        go_wp2_with (first
          | ((first
              | ((with_reducible apply wpL_skip); rfl; skip)
              | ((with_reducible apply wpL_shrI (m := i) (k := k) (r := q)); rfl; rfl; rfl; rfl; (exact (by omega)); (exact HQ1.out); rfl)
              | ((with_reducible apply wpL_and (m := q) (n := 1) (r := 1)); rfl; rfl; rfl; rfl; (exact HB1.out); (exact (by decide)); (exact HAND.out); (exact (by decide)); rfl)
              | ((with_reducible apply wpL_callV (dst := some 34) (f := f) (first := #[]) (cap := cap) (args := #[.int .i64 ((k : Int) + 1), s.val, c.val] ++ cap) hf); go_must (rfl); go_must ((first | rfl | (simp only [Array.empty_append]; rfl))); go_must ((exact HVIS.out [(g11_, objC s.cells 34), (g12_, objC c.cells 34), (g10_, objC s.cells 34), (g8_, objC Nd0.cells 34), (g4_, objC c.cells 34)] _ HH.out)); go_must (rfl); go_must ((rintro e_ w2_ ⟨rfl, hq_⟩; refine ⟨_, rfl, ?_⟩; simp only [List.cons_append, List.nil_append] at hq_; clear HH; have HH := hid hq_; clear hq_)))
              | (go_at_call 37; (with_reducible refine (join_any _ ((k : Int) + 1) s c).mono ?_); rw [HC2.out]; rintro e_ w2_ ⟨rfl, hb_⟩; (have hq_ := HH.out.grow hb_); clear HH; have HH := hid hq_; clear hq_ hb_)
              | ((with_reducible apply wpL_nilCheck); rfl; rfl)
              | ((with_reducible apply wpL_loadArr (t := 34) kA34 HH.out); rfl; (first | exact .here | exact .there .here | exact .there (.there .here) | exact .there (.there (.there .here)) | exact .there (.there (.there (.there .here))) | exact .there (.there (.there (.there (.there .here)))) | exact .there (.there (.there (.there (.there (.there .here))))) | exact .there (.there (.there (.there (.there (.there (.there .here))))))); rfl)
              | ((with_reducible apply wpL_loadC (t := 34) kA34 HH.out); rfl; (first | exact .here | exact .there .here | exact .there (.there .here) | exact .there (.there (.there .here)) | exact .there (.there (.there (.there .here))) | exact .there (.there (.there (.there (.there .here)))) | exact .there (.there (.there (.there (.there (.there .here))))) | exact .there (.there (.there (.there (.there (.there (.there .here))))))); (first | rfl | exact Arr.len _ | (simp; done)); rfl)
              | ((with_reducible apply wpL_len (t := 46) Try.underlying46); rfl; rfl)
              | ((with_reducible apply wpL_boxArr (dst := some 4)); rfl; (exact HH.out); rfl; (intro g4_ w_ hq_; (try simp only [List.set_cons_zero, List.set_cons_succ] at hq_); clear HH; have HH := hid hq_; clear hq_))
              | ((with_reducible apply wpL_allocC (dst := some 8) kZ34 HH.out); rfl; (intro g8_ w_ hq_; (try simp only [List.set_cons_zero, List.set_cons_succ] at hq_); clear HH; have HH := hid hq_; clear hq_))
              | ((with_reducible apply wpL_allocC (dst := some 10) kZ34 HH.out); rfl; (intro g10_ w_ hq_; (try simp only [List.set_cons_zero, List.set_cons_succ] at hq_); clear HH; have HH := hid hq_; clear hq_))
              | ((with_reducible apply wpL_allocC (dst := some 11) kZ34 HH.out); rfl; (intro g11_ w_ hq_; (try simp only [List.set_cons_zero, List.set_cons_succ] at hq_); clear HH; have HH := hid hq_; clear hq_))
              | ((with_reducible apply wpL_allocC (dst := some 12) kZ34 HH.out); rfl; (intro g12_ w_ hq_; (try simp only [List.set_cons_zero, List.set_cons_succ] at hq_); clear HH; have HH := hid hq_; clear hq_))
              | ((with_reducible apply wpL_storeArr (t := 34) kS34 HH.out); rfl; rfl; (first | exact .here | exact .there .here | exact .there (.there .here) | exact .there (.there (.there .here)) | exact .there (.there (.there (.there .here))) | exact .there (.there (.there (.there (.there .here)))) | exact .there (.there (.there (.there (.there (.there .here))))) | exact .there (.there (.there (.there (.there (.there (.there .here))))))); (first | rfl | exact Arr.len _ | (simp; done)); rfl; (intro w_ hq_; (try simp only [List.set_cons_zero, List.set_cons_succ] at hq_); clear HH; have HH := hid hq_; clear hq_))
              | ((with_reducible apply wpL_storeC (t := 34)); rfl; rfl; (exact kS34); (exact HH.out); (first | exact .here | exact .there .here | exact .there (.there .here) | exact .there (.there (.there .here)) | exact .there (.there (.there (.there .here))) | exact .there (.there (.there (.there (.there .here)))) | exact .there (.there (.there (.there (.there (.there .here))))) | exact .there (.there (.there (.there (.there (.there (.there .here))))))); (first | rfl | exact Arr.len _ | (simp; done)); (first | rfl | (intro u_ hu_; simp only [List.mem_cons, List.not_mem_nil, or_false] at hu_; rcases hu_ with rfl | hu_; rfl) | exact byt_cell1 _ | exact cells_one _ | exact wrd_one _ | exact flat_cell1 _); (first | rfl | exact Arr.len _ | (simp; done)); rfl; (intro w_ hq_; (try simp only [List.set_cons_zero, List.set_cons_succ] at hq_); clear HH; have HH := hid hq_; clear hq_))
              | ((with_reducible apply wpL_move); rfl; rfl)
              | ((with_reducible apply wpL_assign); rfl; rfl)
              | ((with_reducible apply wpL_pick); rfl; rfl; rfl)
              | ((with_reducible apply wpL_not); rfl; rfl)
              | ((with_reducible apply wpL_cmp (b := true)); rfl; rfl; rfl; (first | rfl | assumption | (simp only [cmpB, decide_eq_true_eq, decide_eq_false_iff_not, beq_iff_eq, bne_iff_ne, ne_eq, beq_eq_false_iff_ne, bne_eq_false_iff_eq, gt_iff_lt, ge_iff_le]; omega) | (simp; omega)); rfl)
              | ((with_reducible apply wpL_cmp (b := false)); rfl; rfl; rfl; (first | rfl | assumption | (simp only [cmpB, decide_eq_true_eq, decide_eq_false_iff_not, beq_iff_eq, bne_iff_ne, ne_eq, beq_eq_false_iff_ne, bne_eq_false_iff_eq, gt_iff_lt, ge_iff_le]; omega) | (simp; omega)); rfl)
              | ((with_reducible apply wpL_cmp); rfl; rfl; rfl; rfl; rfl)
              | ((with_reducible apply wpL_arith); rfl; rfl; rfl; (exact IntWalk.i64_in _ (by (try simp only [arithI]); omega)); rfl)); (try simp only [arithI, Act.put, Act.eval, List.setIfInBounds_toArray, List.set_cons_succ, List.set_cons_zero, Array.getD_eq_getD_getElem?, List.getElem?_toArray, List.getElem?_cons_succ, List.getElem?_cons_zero, Option.getD_some])))
        go_roundw
        case rel => exact ⟨k + 1, by omega, by go_num, HST.out ▸ HH.out.dropBlk.dropBlk.dropBlk⟩
        case measure => simp [intOf]; omega
      · have hpair : pairC i k c s = (c, s) := by unfold pairC; rw [if_neg hbit]
        rw [hpair] at hv hst
        obtain ⟨c2, hc2⟩ : ∃ c2, joinN ((k : Int) + 1) c s = c2 := ⟨_, rfl⟩
        have HC2 := hid hc2
        have HST := hid (show curAt i x p (k + 1) = c2 by rw [hst]; exact hc2)
        have HVIS := hid hv
        have HAND := hid (show q &&& 1 = 0 by rw [Nat.and_one_is_mod, ← HQ1.out]; omega)
        clear hpair hv hst hc2 hbit
        go_wp2_with (first
          | ((first
              | ((with_reducible apply wpL_skip); rfl; skip)
              | ((with_reducible apply wpL_shrI (m := i) (k := k) (r := q)); rfl; rfl; rfl; rfl; (exact (by omega)); (exact HQ1.out); rfl)
              | ((with_reducible apply wpL_and (m := q) (n := 1) (r := 0)); rfl; rfl; rfl; rfl; (exact HB1.out); (exact (by decide)); (exact HAND.out); (exact (by decide)); rfl)
              | ((with_reducible apply wpL_callV (dst := some 34) (f := f) (first := #[]) (cap := cap) (args := #[.int .i64 ((k : Int) + 1), c.val, s.val] ++ cap) hf); go_must (rfl); go_must ((first | rfl | (simp only [Array.empty_append]; rfl))); go_must ((exact HVIS.out [(g11_, objC c.cells 34), (g12_, objC s.cells 34), (g10_, objC s.cells 34), (g8_, objC Nd0.cells 34), (g4_, objC c.cells 34)] _ HH.out)); go_must (rfl); go_must ((rintro e_ w2_ ⟨rfl, hq_⟩; refine ⟨_, rfl, ?_⟩; simp only [List.cons_append, List.nil_append] at hq_; clear HH; have HH := hid hq_; clear hq_)))
              | (go_at_call 37; (with_reducible refine (join_any _ ((k : Int) + 1) c s).mono ?_); rw [HC2.out]; rintro e_ w2_ ⟨rfl, hb_⟩; (have hq_ := HH.out.grow hb_); clear HH; have HH := hid hq_; clear hq_ hb_)
              | ((with_reducible apply wpL_nilCheck); rfl; rfl)
              | ((with_reducible apply wpL_loadArr (t := 34) kA34 HH.out); rfl; (first | exact .here | exact .there .here | exact .there (.there .here) | exact .there (.there (.there .here)) | exact .there (.there (.there (.there .here))) | exact .there (.there (.there (.there (.there .here)))) | exact .there (.there (.there (.there (.there (.there .here))))) | exact .there (.there (.there (.there (.there (.there (.there .here))))))); rfl)
              | ((with_reducible apply wpL_loadC (t := 34) kA34 HH.out); rfl; (first | exact .here | exact .there .here | exact .there (.there .here) | exact .there (.there (.there .here)) | exact .there (.there (.there (.there .here))) | exact .there (.there (.there (.there (.there .here)))) | exact .there (.there (.there (.there (.there (.there .here))))) | exact .there (.there (.there (.there (.there (.there (.there .here))))))); (first | rfl | exact Arr.len _ | (simp; done)); rfl)
              | ((with_reducible apply wpL_len (t := 46) Try.underlying46); rfl; rfl)
              | ((with_reducible apply wpL_boxArr (dst := some 4)); rfl; (exact HH.out); rfl; (intro g4_ w_ hq_; (try simp only [List.set_cons_zero, List.set_cons_succ] at hq_); clear HH; have HH := hid hq_; clear hq_))
              | ((with_reducible apply wpL_allocC (dst := some 8) kZ34 HH.out); rfl; (intro g8_ w_ hq_; (try simp only [List.set_cons_zero, List.set_cons_succ] at hq_); clear HH; have HH := hid hq_; clear hq_))
              | ((with_reducible apply wpL_allocC (dst := some 10) kZ34 HH.out); rfl; (intro g10_ w_ hq_; (try simp only [List.set_cons_zero, List.set_cons_succ] at hq_); clear HH; have HH := hid hq_; clear hq_))
              | ((with_reducible apply wpL_allocC (dst := some 11) kZ34 HH.out); rfl; (intro g11_ w_ hq_; (try simp only [List.set_cons_zero, List.set_cons_succ] at hq_); clear HH; have HH := hid hq_; clear hq_))
              | ((with_reducible apply wpL_allocC (dst := some 12) kZ34 HH.out); rfl; (intro g12_ w_ hq_; (try simp only [List.set_cons_zero, List.set_cons_succ] at hq_); clear HH; have HH := hid hq_; clear hq_))
              | ((with_reducible apply wpL_storeArr (t := 34) kS34 HH.out); rfl; rfl; (first | exact .here | exact .there .here | exact .there (.there .here) | exact .there (.there (.there .here)) | exact .there (.there (.there (.there .here))) | exact .there (.there (.there (.there (.there .here)))) | exact .there (.there (.there (.there (.there (.there .here))))) | exact .there (.there (.there (.there (.there (.there (.there .here))))))); (first | rfl | exact Arr.len _ | (simp; done)); rfl; (intro w_ hq_; (try simp only [List.set_cons_zero, List.set_cons_succ] at hq_); clear HH; have HH := hid hq_; clear hq_))
              | ((with_reducible apply wpL_storeC (t := 34)); rfl; rfl; (exact kS34); (exact HH.out); (first | exact .here | exact .there .here | exact .there (.there .here) | exact .there (.there (.there .here)) | exact .there (.there (.there (.there .here))) | exact .there (.there (.there (.there (.there .here)))) | exact .there (.there (.there (.there (.there (.there .here))))) | exact .there (.there (.there (.there (.there (.there (.there .here))))))); (first | rfl | exact Arr.len _ | (simp; done)); (first | rfl | (intro u_ hu_; simp only [List.mem_cons, List.not_mem_nil, or_false] at hu_; rcases hu_ with rfl | hu_; rfl) | exact byt_cell1 _ | exact cells_one _ | exact wrd_one _ | exact flat_cell1 _); (first | rfl | exact Arr.len _ | (simp; done)); rfl; (intro w_ hq_; (try simp only [List.set_cons_zero, List.set_cons_succ] at hq_); clear HH; have HH := hid hq_; clear hq_))
              | ((with_reducible apply wpL_move); rfl; rfl)
              | ((with_reducible apply wpL_assign); rfl; rfl)
              | ((with_reducible apply wpL_pick); rfl; rfl; rfl)
              | ((with_reducible apply wpL_not); rfl; rfl)
              | ((with_reducible apply wpL_cmp (b := true)); rfl; rfl; rfl; (first | rfl | assumption | (simp only [cmpB, decide_eq_true_eq, decide_eq_false_iff_not, beq_iff_eq, bne_iff_ne, ne_eq, beq_eq_false_iff_ne, bne_eq_false_iff_eq, gt_iff_lt, ge_iff_le]; omega) | (simp; omega)); rfl)
              | ((with_reducible apply wpL_cmp (b := false)); rfl; rfl; rfl; (first | rfl | assumption | (simp only [cmpB, decide_eq_true_eq, decide_eq_false_iff_not, beq_iff_eq, bne_iff_ne, ne_eq, beq_eq_false_iff_ne, bne_eq_false_iff_eq, gt_iff_lt, ge_iff_le]; omega) | (simp; omega)); rfl)
              | ((with_reducible apply wpL_cmp); rfl; rfl; rfl; rfl; rfl)
              | ((with_reducible apply wpL_arith); rfl; rfl; rfl; (exact IntWalk.i64_in _ (by (try simp only [arithI]); omega)); rfl)); (try simp only [arithI, Act.put, Act.eval, List.setIfInBounds_toArray, List.set_cons_succ, List.set_cons_zero, Array.getD_eq_getD_getElem?, List.getElem?_toArray, List.getElem?_cons_succ, List.getElem?_cons_zero, Option.getD_some])))
        go_roundw
        case rel => exact ⟨k + 1, by omega, by go_num, HST.out ▸ HH.out.dropBlk.dropBlk.dropBlk⟩
        case measure => simp [intOf]; omega
    · obtain rfl : k = p.length := by omega
      go_wp2_with (first
        | ((first
            | ((with_reducible apply wpL_skip); rfl; skip)
            | ((with_reducible apply wpL_nilCheck); rfl; rfl)
            | ((with_reducible apply wpL_loadArr (t := 34) kA34 HH.out); rfl; (first | exact .here | exact .there .here | exact .there (.there .here) | exact .there (.there (.there .here)) | exact .there (.there (.there (.there .here))) | exact .there (.there (.there (.there (.there .here)))) | exact .there (.there (.there (.there (.there (.there .here))))) | exact .there (.there (.there (.there (.there (.there (.there .here))))))); rfl)
            | ((with_reducible apply wpL_loadC (t := 34) kA34 HH.out); rfl; (first | exact .here | exact .there .here | exact .there (.there .here) | exact .there (.there (.there .here)) | exact .there (.there (.there (.there .here))) | exact .there (.there (.there (.there (.there .here)))) | exact .there (.there (.there (.there (.there (.there .here))))) | exact .there (.there (.there (.there (.there (.there (.there .here))))))); (first | rfl | exact Arr.len _ | (simp; done)); rfl)
            | ((with_reducible apply wpL_len (t := 46) Try.underlying46); rfl; rfl)
            | ((with_reducible apply wpL_boxArr (dst := some 4)); rfl; (exact HH.out); rfl; (intro g4_ w_ hq_; (try simp only [List.set_cons_zero, List.set_cons_succ] at hq_); clear HH; have HH := hid hq_; clear hq_))
            | ((with_reducible apply wpL_allocC (dst := some 8) kZ34 HH.out); rfl; (intro g8_ w_ hq_; (try simp only [List.set_cons_zero, List.set_cons_succ] at hq_); clear HH; have HH := hid hq_; clear hq_))
            | ((with_reducible apply wpL_allocC (dst := some 10) kZ34 HH.out); rfl; (intro g10_ w_ hq_; (try simp only [List.set_cons_zero, List.set_cons_succ] at hq_); clear HH; have HH := hid hq_; clear hq_))
            | ((with_reducible apply wpL_allocC (dst := some 11) kZ34 HH.out); rfl; (intro g11_ w_ hq_; (try simp only [List.set_cons_zero, List.set_cons_succ] at hq_); clear HH; have HH := hid hq_; clear hq_))
            | ((with_reducible apply wpL_allocC (dst := some 12) kZ34 HH.out); rfl; (intro g12_ w_ hq_; (try simp only [List.set_cons_zero, List.set_cons_succ] at hq_); clear HH; have HH := hid hq_; clear hq_))
            | ((with_reducible apply wpL_storeArr (t := 34) kS34 HH.out); rfl; rfl; (first | exact .here | exact .there .here | exact .there (.there .here) | exact .there (.there (.there .here)) | exact .there (.there (.there (.there .here))) | exact .there (.there (.there (.there (.there .here)))) | exact .there (.there (.there (.there (.there (.there .here))))) | exact .there (.there (.there (.there (.there (.there (.there .here))))))); (first | rfl | exact Arr.len _ | (simp; done)); rfl; (intro w_ hq_; (try simp only [List.set_cons_zero, List.set_cons_succ] at hq_); clear HH; have HH := hid hq_; clear hq_))
            | ((with_reducible apply wpL_storeC (t := 34)); rfl; rfl; (exact kS34); (exact HH.out); (first | exact .here | exact .there .here | exact .there (.there .here) | exact .there (.there (.there .here)) | exact .there (.there (.there (.there .here))) | exact .there (.there (.there (.there (.there .here)))) | exact .there (.there (.there (.there (.there (.there .here))))) | exact .there (.there (.there (.there (.there (.there (.there .here))))))); (first | rfl | exact Arr.len _ | (simp; done)); (first | rfl | (intro u_ hu_; simp only [List.mem_cons, List.not_mem_nil, or_false] at hu_; rcases hu_ with rfl | hu_; rfl) | exact byt_cell1 _ | exact cells_one _ | exact wrd_one _ | exact flat_cell1 _); (first | rfl | exact Arr.len _ | (simp; done)); rfl; (intro w_ hq_; (try simp only [List.set_cons_zero, List.set_cons_succ] at hq_); clear HH; have HH := hid hq_; clear hq_))
            | ((with_reducible apply wpL_move); rfl; rfl)
            | ((with_reducible apply wpL_assign); rfl; rfl)
            | ((with_reducible apply wpL_pick); rfl; rfl; rfl)
            | ((with_reducible apply wpL_not); rfl; rfl)
            | ((with_reducible apply wpL_cmp (b := true)); rfl; rfl; rfl; (first | rfl | assumption | (simp only [cmpB, decide_eq_true_eq, decide_eq_false_iff_not, beq_iff_eq, bne_iff_ne, ne_eq, beq_eq_false_iff_ne, bne_eq_false_iff_eq, gt_iff_lt, ge_iff_le]; omega) | (simp; omega)); rfl)
            | ((with_reducible apply wpL_cmp (b := false)); rfl; rfl; rfl; (first | rfl | assumption | (simp only [cmpB, decide_eq_true_eq, decide_eq_false_iff_not, beq_iff_eq, bne_iff_ne, ne_eq, beq_eq_false_iff_ne, bne_eq_false_iff_eq, gt_iff_lt, ge_iff_le]; omega) | (simp; omega)); rfl)
            | ((with_reducible apply wpL_cmp); rfl; rfl; rfl; rfl; rfl)
            | ((with_reducible apply wpL_arith); rfl; rfl; rfl; (exact IntWalk.i64_in _ (by (try simp only [arithI]); omega)); rfl)); (try simp only [arithI, Act.put, Act.eval, List.setIfInBounds_toArray, List.set_cons_succ, List.set_cons_zero, Array.getD_eq_getD_getElem?, List.getElem?_toArray, List.getElem?_cons_succ, List.getElem?_cons_zero, Option.getD_some])))
      refine bodyPost_ret (res1 rfl (resC kA34 HH.out (by rfl) .here (Arr.len _))) rfl ?_
      exact ⟨rfl, HH.out.dropBlk.dropBlk⟩
end Go.Proofs.Ytgkfopodhikckaa

/- From and Verify of merkle. Condition: at most 10^9 nodes. -/
namespace Go.Proofs.Ytgkfopodhikckaa
open Go.RowKit
attribute [local irreducible] wpQuiet wpList
theorem res0 {P : Program} {w : World} {fn : Func} {tmps : Array Value} (h : fn.results = #[]) : (results fn tmps).run P w = .ok (.tuple #[]) w := by
  rw [results_eq, h]; simp
set_option maxRecDepth 100000 in
set_option maxHeartbeats 2000000 in
theorem from1_any (w : World) (k : Int) (x y : Nd) : Calls Try.prog 77 #[.int .i64 k, x.val, y.val] w (fun e w' => e = .returned (.tuple #[]) ∧ Below w.heap.size w w') := by
  have HH := hid (Holds.init w)
  go_enter Try.func77, Try.ntmps77
  go_wp2_with (first
    | ((first
        | ((with_reducible apply wpL_skip); rfl; skip)
        | ((with_reducible apply wpL_nilCheck); rfl; rfl)
        | ((with_reducible apply wpL_boxArr (dst := some 4)); rfl; (exact HH.out); rfl; (intro g4_ w_ hq_; (try simp only [List.set_cons_zero, List.set_cons_succ] at hq_); clear HH; have HH := hid hq_; clear hq_))
        | ((with_reducible apply wpL_boxArr (dst := some 5)); rfl; (exact HH.out); rfl; (intro g5_ w_ hq_; (try simp only [List.set_cons_zero, List.set_cons_succ] at hq_); clear HH; have HH := hid hq_; clear hq_))
        | ((with_reducible apply wpL_move); rfl; rfl)
        | ((with_reducible apply wpL_assign); rfl; rfl)
        | ((with_reducible apply wpL_pick); rfl; rfl; rfl)
        | ((with_reducible apply wpL_not); rfl; rfl)
        | ((with_reducible apply wpL_cmp (b := true)); rfl; rfl; rfl; (first | rfl | assumption | (simp only [cmpB, decide_eq_true_eq, decide_eq_false_iff_not, beq_iff_eq, bne_iff_ne, ne_eq, beq_eq_false_iff_ne, bne_eq_false_iff_eq, gt_iff_lt, ge_iff_le]; omega) | (simp; omega)); rfl)
        | ((with_reducible apply wpL_cmp (b := false)); rfl; rfl; rfl; (first | rfl | assumption | (simp only [cmpB, decide_eq_true_eq, decide_eq_false_iff_not, beq_iff_eq, bne_iff_ne, ne_eq, beq_eq_false_iff_ne, bne_eq_false_iff_eq, gt_iff_lt, ge_iff_le]; omega) | (simp; omega)); rfl)
        | ((with_reducible apply wpL_cmp); rfl; rfl; rfl; rfl; rfl)
        | ((with_reducible apply wpL_arith); rfl; rfl; rfl; (exact IntWalk.i64_in _ (by (try simp only [arithI]); omega)); rfl)); (try simp only [arithI, Act.put, Act.eval, List.setIfInBounds_toArray, List.set_cons_succ, List.set_cons_zero, Array.getD_eq_getD_getElem?, List.getElem?_toArray, List.getElem?_cons_succ, List.getElem?_cons_zero, Option.getD_some])))
  exact ⟨rfl, _, res0 rfl, rfl, HH.out.dropBlk.dropBlk.below⟩
def fromC (i : Int) (n : Nat) : Int := if 10 < n then 9 else if i < 0 ∨ ((2 ^ n : Nat) : Int) ≤ i then 8 else 0
def fromV (x : Nd) (i : Int) (p : List Nd) : Nd := if fromC i p.length = 0 then curAt i.toNat x p p.length else Nd0
set_option maxRecDepth 100000 in
set_option maxHeartbeats 4000000 in
theorem from_any (w : World) (v : Value) (x : Nd) (i : Int) (p : List Nd) (hp : Arrs w v p) (hn : p.length ≤ 1000000000) : Calls Try.prog 54 #[x.val, .int .i64 i, v] w (RetR w (fromV x i p) (fromC i p.length)) := by
  obtain ⟨ao, cap, rfl, _⟩ := hp.shape
  have HP := hid hp
  clear hp
  have HH := hid (Holds.init w)
  by_cases h10 : 10 < p.length
  · have e1 : fromC i p.length = 9 := by unfold fromC; rw [if_pos h10]
    have e2 : fromV x i p = Nd0 := by unfold fromV; rw [e1]; rfl
    rw [e1, e2]
    clear e1 e2
    go_enter Try.func54, Try.ntmps54
    go_wp2_with (first
      | ((first
          | ((with_reducible apply wpL_skip); rfl; skip)
          | ((with_reducible apply wpList_build (parts := #[]) (v := Nd0.val)); (exact BZ34); rfl)
          | ((with_reducible apply wpL_storeC (t := 34) (vs := Nd0.cells)); rfl; rfl; (exact kS34); (exact HH.out); (exact .here); (exact Arr.len _); (exact cells_one _); (exact Arr.len _); rfl; (intro w_ hq_; clear HH; have HH := hid hq_; clear hq_))
          | ((with_reducible apply wpL_nilCheck); rfl; rfl)
          | ((with_reducible apply wpL_loadArr (t := 34) kA34 HH.out); rfl; (first | exact .here | exact .there .here | exact .there (.there .here) | exact .there (.there (.there .here)) | exact .there (.there (.there (.there .here))) | exact .there (.there (.there (.there (.there .here)))) | exact .there (.there (.there (.there (.there (.there .here))))) | exact .there (.there (.there (.there (.there (.there (.there .here))))))); rfl)
          | ((with_reducible apply wpL_loadC (t := 34) kA34 HH.out); rfl; (first | exact .here | exact .there .here | exact .there (.there .here) | exact .there (.there (.there .here)) | exact .there (.there (.there (.there .here))) | exact .there (.there (.there (.there (.there .here)))) | exact .there (.there (.there (.there (.there (.there .here))))) | exact .there (.there (.there (.there (.there (.there (.there .here))))))); (first | rfl | exact Arr.len _ | (simp; done)); rfl)
          | ((with_reducible apply wpL_len (t := 46) Try.underlying46); rfl; rfl)
          | ((with_reducible apply wpL_boxArr (dst := some 3)); rfl; (exact HH.out); rfl; (intro g3_ w_ hq_; (try simp only [List.set_cons_zero, List.set_cons_succ] at hq_); clear HH; have HH := hid hq_; clear hq_))
          | ((with_reducible apply wpL_allocC (dst := some 6) kZ34 HH.out); rfl; (intro g6_ w_ hq_; (try simp only [List.set_cons_zero, List.set_cons_succ] at hq_); clear HH; have HH := hid hq_; clear hq_))
          | ((with_reducible apply wpL_storeArr (t := 34) kS34 HH.out); rfl; rfl; (first | exact .here | exact .there .here | exact .there (.there .here) | exact .there (.there (.there .here)) | exact .there (.there (.there (.there .here))) | exact .there (.there (.there (.there (.there .here)))) | exact .there (.there (.there (.there (.there (.there .here))))) | exact .there (.there (.there (.there (.there (.there (.there .here))))))); (first | rfl | exact Arr.len _ | (simp; done)); rfl; (intro w_ hq_; (try simp only [List.set_cons_zero, List.set_cons_succ] at hq_); clear HH; have HH := hid hq_; clear hq_))
          | ((with_reducible apply wpL_storeC (t := 34)); rfl; rfl; (exact kS34); (exact HH.out); (first | exact .here | exact .there .here | exact .there (.there .here) | exact .there (.there (.there .here)) | exact .there (.there (.there (.there .here))) | exact .there (.there (.there (.there (.there .here)))) | exact .there (.there (.there (.there (.there (.there .here))))) | exact .there (.there (.there (.there (.there (.there (.there .here))))))); (first | rfl | exact Arr.len _ | (simp; done)); (first | rfl | (intro u_ hu_; simp only [List.mem_cons, List.not_mem_nil, or_false] at hu_; rcases hu_ with rfl | hu_; rfl) | exact byt_cell1 _ | exact cells_one _ | exact wrd_one _ | exact flat_cell1 _); (first | rfl | exact Arr.len _ | (simp; done)); rfl; (intro w_ hq_; (try simp only [List.set_cons_zero, List.set_cons_succ] at hq_); clear HH; have HH := hid hq_; clear hq_))
          | ((with_reducible apply wpL_move); rfl; rfl)
          | ((with_reducible apply wpL_assign); rfl; rfl)
          | ((with_reducible apply wpL_pick); rfl; rfl; rfl)
          | ((with_reducible apply wpL_not); rfl; rfl)
          | ((with_reducible apply wpL_cmp (b := true)); rfl; rfl; rfl; (first | rfl | assumption | (simp only [cmpB, decide_eq_true_eq, decide_eq_false_iff_not, beq_iff_eq, bne_iff_ne, ne_eq, beq_eq_false_iff_ne, bne_eq_false_iff_eq, gt_iff_lt, ge_iff_le]; omega) | (simp; omega)); rfl)
          | ((with_reducible apply wpL_cmp (b := false)); rfl; rfl; rfl; (first | rfl | assumption | (simp only [cmpB, decide_eq_true_eq, decide_eq_false_iff_not, beq_iff_eq, bne_iff_ne, ne_eq, beq_eq_false_iff_ne, bne_eq_false_iff_eq, gt_iff_lt, ge_iff_le]; omega) | (simp; omega)); rfl)
          | ((with_reducible apply wpL_cmp); rfl; rfl; rfl; rfl; rfl)
          | ((with_reducible apply wpL_arith); rfl; rfl; rfl; (exact IntWalk.i64_in _ (by (try simp only [arithI]); omega)); rfl)); (try simp only [arithI, Act.put, Act.eval, List.setIfInBounds_toArray, List.set_cons_succ, List.set_cons_zero, Array.getD_eq_getD_getElem?, List.getElem?_toArray, List.getElem?_cons_succ, List.getElem?_cons_zero, Option.getD_some])))
    refine bodyPost_ret (res2 rfl (resC kA34 HH.out (by rfl) .here (Arr.len _)) (by rfl)) rfl ?_
    exact RetR.mk rfl rfl HH.out.dropBlk.dropBlk.below
  · by_cases h0 : i < 0
    · have e1 : fromC i p.length = 8 := by unfold fromC; rw [if_neg h10, if_pos (.inl h0)]
      have e2 : fromV x i p = Nd0 := by unfold fromV; rw [e1]; rfl
      rw [e1, e2]
      clear e1 e2
      go_enter Try.func54, Try.ntmps54
      go_wp2_with (first
        | ((first
            | ((with_reducible apply wpL_skip); rfl; skip)
            | ((with_reducible apply wpList_build (parts := #[]) (v := Nd0.val)); (exact BZ34); rfl)
            | ((with_reducible apply wpL_storeC (t := 34) (vs := Nd0.cells)); rfl; rfl; (exact kS34); (exact HH.out); (exact .here); (exact Arr.len _); (exact cells_one _); (exact Arr.len _); rfl; (intro w_ hq_; clear HH; have HH := hid hq_; clear hq_))
            | ((with_reducible apply wpL_nilCheck); rfl; rfl)
            | ((with_reducible apply wpL_loadArr (t := 34) kA34 HH.out); rfl; (first | exact .here | exact .there .here | exact .there (.there .here) | exact .there (.there (.there .here)) | exact .there (.there (.there (.there .here))) | exact .there (.there (.there (.there (.there .here)))) | exact .there (.there (.there (.there (.there (.there .here))))) | exact .there (.there (.there (.there (.there (.there (.there .here))))))); rfl)
            | ((with_reducible apply wpL_loadC (t := 34) kA34 HH.out); rfl; (first | exact .here | exact .there .here | exact .there (.there .here) | exact .there (.there (.there .here)) | exact .there (.there (.there (.there .here))) | exact .there (.there (.there (.there (.there .here)))) | exact .there (.there (.there (.there (.there (.there .here))))) | exact .there (.there (.there (.there (.there (.there (.there .here))))))); (first | rfl | exact Arr.len _ | (simp; done)); rfl)
            | ((with_reducible apply wpL_len (t := 46) Try.underlying46); rfl; rfl)
            | ((with_reducible apply wpL_boxArr (dst := some 3)); rfl; (exact HH.out); rfl; (intro g3_ w_ hq_; (try simp only [List.set_cons_zero, List.set_cons_succ] at hq_); clear HH; have HH := hid hq_; clear hq_))
            | ((with_reducible apply wpL_allocC (dst := some 6) kZ34 HH.out); rfl; (intro g6_ w_ hq_; (try simp only [List.set_cons_zero, List.set_cons_succ] at hq_); clear HH; have HH := hid hq_; clear hq_))
            | ((with_reducible apply wpL_storeArr (t := 34) kS34 HH.out); rfl; rfl; (first | exact .here | exact .there .here | exact .there (.there .here) | exact .there (.there (.there .here)) | exact .there (.there (.there (.there .here))) | exact .there (.there (.there (.there (.there .here)))) | exact .there (.there (.there (.there (.there (.there .here))))) | exact .there (.there (.there (.there (.there (.there (.there .here))))))); (first | rfl | exact Arr.len _ | (simp; done)); rfl; (intro w_ hq_; (try simp only [List.set_cons_zero, List.set_cons_succ] at hq_); clear HH; have HH := hid hq_; clear hq_))
            | ((with_reducible apply wpL_storeC (t := 34)); rfl; rfl; (exact kS34); (exact HH.out); (first | exact .here | exact .there .here | exact .there (.there .here) | exact .there (.there (.there .here)) | exact .there (.there (.there (.there .here))) | exact .there (.there (.there (.there (.there .here)))) | exact .there (.there (.there (.there (.there (.there .here))))) | exact .there (.there (.there (.there (.there (.there (.there .here))))))); (first | rfl | exact Arr.len _ | (simp; done)); (first | rfl | (intro u_ hu_; simp only [List.mem_cons, List.not_mem_nil, or_false] at hu_; rcases hu_ with rfl | hu_; rfl) | exact byt_cell1 _ | exact cells_one _ | exact wrd_one _ | exact flat_cell1 _); (first | rfl | exact Arr.len _ | (simp; done)); rfl; (intro w_ hq_; (try simp only [List.set_cons_zero, List.set_cons_succ] at hq_); clear HH; have HH := hid hq_; clear hq_))
            | ((with_reducible apply wpL_move); rfl; rfl)
            | ((with_reducible apply wpL_assign); rfl; rfl)
            | ((with_reducible apply wpL_pick); rfl; rfl; rfl)
            | ((with_reducible apply wpL_not); rfl; rfl)
            | ((with_reducible apply wpL_cmp (b := true)); rfl; rfl; rfl; (first | rfl | assumption | (simp only [cmpB, decide_eq_true_eq, decide_eq_false_iff_not, beq_iff_eq, bne_iff_ne, ne_eq, beq_eq_false_iff_ne, bne_eq_false_iff_eq, gt_iff_lt, ge_iff_le]; omega) | (simp; omega)); rfl)
            | ((with_reducible apply wpL_cmp (b := false)); rfl; rfl; rfl; (first | rfl | assumption | (simp only [cmpB, decide_eq_true_eq, decide_eq_false_iff_not, beq_iff_eq, bne_iff_ne, ne_eq, beq_eq_false_iff_ne, bne_eq_false_iff_eq, gt_iff_lt, ge_iff_le]; omega) | (simp; omega)); rfl)
            | ((with_reducible apply wpL_cmp); rfl; rfl; rfl; rfl; rfl)
            | ((with_reducible apply wpL_arith); rfl; rfl; rfl; (exact IntWalk.i64_in _ (by (try simp only [arithI]); omega)); rfl)); (try simp only [arithI, Act.put, Act.eval, List.setIfInBounds_toArray, List.set_cons_succ, List.set_cons_zero, Array.getD_eq_getD_getElem?, List.getElem?_toArray, List.getElem?_cons_succ, List.getElem?_cons_zero, Option.getD_some])))
      refine bodyPost_ret (res2 rfl (resC kA34 HH.out (by rfl) .here (Arr.len _)) (by rfl)) rfl ?_
      exact RetR.mk rfl rfl HH.out.dropBlk.dropBlk.below
    · obtain ⟨j, rfl⟩ : ∃ j : Nat, i = j := ⟨i.toNat, by omega⟩
      obtain ⟨q, hq⟩ : ∃ q, 2 ^ p.length = q := ⟨_, rfl⟩
      have hq10 : q ≤ 1024 := by rw [← hq]; exact Nat.le_trans (Nat.pow_le_pow_right (by decide) (show p.length ≤ 10 by omega)) (by decide)
      have HQ1 := hid (show 1 * 2 ^ p.length = q by rw [Nat.one_mul, hq])
      have HW := hid (show IntKind.i64.wrap ((q : Nat) : Int) = (q : Int) from IntWalk.i64_in _ (by omega))
      by_cases hj : q ≤ j
      · have e1 : fromC (j : Int) p.length = 8 := by unfold fromC; rw [if_neg h10, if_pos (.inr (by rw [hq]; omega))]
        have e2 : fromV x (j : Int) p = Nd0 := by unfold fromV; rw [e1]; rfl
        rw [e1, e2]
        clear e1 e2 hq
        go_enter Try.func54, Try.ntmps54
        go_wp2_with (first
          | ((first
              | ((with_reducible apply wpL_skip); rfl; skip)
              | ((with_reducible apply wpL_shlP (m := 1) (k := p.length) (r := q)); rfl; rfl; rfl; rfl; (exact (by omega)); (exact HQ1.out); (exact HW.out); rfl)
              | ((with_reducible apply wpList_build (parts := #[]) (v := Nd0.val)); (exact BZ34); rfl)
              | ((with_reducible apply wpL_storeC (t := 34) (vs := Nd0.cells)); rfl; rfl; (exact kS34); (exact HH.out); (exact .here); (exact Arr.len _); (exact cells_one _); (exact Arr.len _); rfl; (intro w_ hq_; clear HH; have HH := hid hq_; clear hq_))
              | ((with_reducible apply wpL_nilCheck); rfl; rfl)
              | ((with_reducible apply wpL_loadArr (t := 34) kA34 HH.out); rfl; (first | exact .here | exact .there .here | exact .there (.there .here) | exact .there (.there (.there .here)) | exact .there (.there (.there (.there .here))) | exact .there (.there (.there (.there (.there .here)))) | exact .there (.there (.there (.there (.there (.there .here))))) | exact .there (.there (.there (.there (.there (.there (.there .here))))))); rfl)
              | ((with_reducible apply wpL_loadC (t := 34) kA34 HH.out); rfl; (first | exact .here | exact .there .here | exact .there (.there .here) | exact .there (.there (.there .here)) | exact .there (.there (.there (.there .here))) | exact .there (.there (.there (.there (.there .here)))) | exact .there (.there (.there (.there (.there (.there .here))))) | exact .there (.there (.there (.there (.there (.there (.there .here))))))); (first | rfl | exact Arr.len _ | (simp; done)); rfl)
              | ((with_reducible apply wpL_len (t := 46) Try.underlying46); rfl; rfl)
              | ((with_reducible apply wpL_boxArr (dst := some 3)); rfl; (exact HH.out); rfl; (intro g3_ w_ hq_; (try simp only [List.set_cons_zero, List.set_cons_succ] at hq_); clear HH; have HH := hid hq_; clear hq_))
              | ((with_reducible apply wpL_allocC (dst := some 6) kZ34 HH.out); rfl; (intro g6_ w_ hq_; (try simp only [List.set_cons_zero, List.set_cons_succ] at hq_); clear HH; have HH := hid hq_; clear hq_))
              | ((with_reducible apply wpL_storeArr (t := 34) kS34 HH.out); rfl; rfl; (first | exact .here | exact .there .here | exact .there (.there .here) | exact .there (.there (.there .here)) | exact .there (.there (.there (.there .here))) | exact .there (.there (.there (.there (.there .here)))) | exact .there (.there (.there (.there (.there (.there .here))))) | exact .there (.there (.there (.there (.there (.there (.there .here))))))); (first | rfl | exact Arr.len _ | (simp; done)); rfl; (intro w_ hq_; (try simp only [List.set_cons_zero, List.set_cons_succ] at hq_); clear HH; have HH := hid hq_; clear hq_))
              | ((with_reducible apply wpL_storeC (t := 34)); rfl; rfl; (exact kS34); (exact HH.out); (first | exact .here | exact .there .here | exact .there (.there .here) | exact .there (.there (.there .here)) | exact .there (.there (.there (.there .here))) | exact .there (.there (.there (.there (.there .here)))) | exact .there (.there (.there (.there (.there (.there .here))))) | exact .there (.there (.there (.there (.there (.there (.there .here))))))); (first | rfl | exact Arr.len _ | (simp; done)); (first | rfl | (intro u_ hu_; simp only [List.mem_cons, List.not_mem_nil, or_false] at hu_; rcases hu_ with rfl | hu_; rfl) | exact byt_cell1 _ | exact cells_one _ | exact wrd_one _ | exact flat_cell1 _); (first | rfl | exact Arr.len _ | (simp; done)); rfl; (intro w_ hq_; (try simp only [List.set_cons_zero, List.set_cons_succ] at hq_); clear HH; have HH := hid hq_; clear hq_))
              | ((with_reducible apply wpL_move); rfl; rfl)
              | ((with_reducible apply wpL_assign); rfl; rfl)
              | ((with_reducible apply wpL_pick); rfl; rfl; rfl)
              | ((with_reducible apply wpL_not); rfl; rfl)
              | ((with_reducible apply wpL_cmp (b := true)); rfl; rfl; rfl; (first | rfl | assumption | (simp only [cmpB, decide_eq_true_eq, decide_eq_false_iff_not, beq_iff_eq, bne_iff_ne, ne_eq, beq_eq_false_iff_ne, bne_eq_false_iff_eq, gt_iff_lt, ge_iff_le]; omega) | (simp; omega)); rfl)
              | ((with_reducible apply wpL_cmp (b := false)); rfl; rfl; rfl; (first | rfl | assumption | (simp only [cmpB, decide_eq_true_eq, decide_eq_false_iff_not, beq_iff_eq, bne_iff_ne, ne_eq, beq_eq_false_iff_ne, bne_eq_false_iff_eq, gt_iff_lt, ge_iff_le]; omega) | (simp; omega)); rfl)
              | ((with_reducible apply wpL_cmp); rfl; rfl; rfl; rfl; rfl)
              | ((with_reducible apply wpL_arith); rfl; rfl; rfl; (exact IntWalk.i64_in _ (by (try simp only [arithI]); omega)); rfl)); (try simp only [arithI, Act.put, Act.eval, List.setIfInBounds_toArray, List.set_cons_succ, List.set_cons_zero, Array.getD_eq_getD_getElem?, List.getElem?_toArray, List.getElem?_cons_succ, List.getElem?_cons_zero, Option.getD_some])))
        refine bodyPost_ret (res2 rfl (resC kA34 HH.out (by rfl) .here (Arr.len _)) (by rfl)) rfl ?_
        exact RetR.mk rfl rfl HH.out.dropBlk.dropBlk.below
      · have e1 : fromC (j : Int) p.length = 0 := by unfold fromC; rw [if_neg h10, if_neg (by rw [hq]; omega)]
        obtain ⟨d, hd⟩ : ∃ d, curAt j x p p.length = d := ⟨_, rfl⟩
        have e2 : fromV x (j : Int) p = d := by unfold fromV; rw [if_pos e1]; exact hd
        have HD := hid hd
        rw [e1, e2]
        clear e1 e2 hq hd
        go_enter Try.func54, Try.ntmps54
        go_wp2_with (first
          | ((first
              | ((with_reducible apply wpL_skip); rfl; skip)
              | ((with_reducible apply wpL_shlP (m := 1) (k := p.length) (r := q)); rfl; rfl; rfl; rfl; (exact (by omega)); (exact HQ1.out); (exact HW.out); rfl)
              | (go_at_call 73; (have hcall_ := hid (climb_any _ _ [] (fun _ => []) [] 77 #[] kB77 (.slice ao p.length cap) x p j (fun bs w1 h1 => h1.sl (HH.out.sl HP.out)) (by omega) (by omega) (Holds.init _) (fun k _ ex w1 h1 => (from1_any w1 _ _ _).mono fun e w2 hq => ⟨hq.1, h1.grow hq.2⟩))); (with_reducible refine hcall_.out.mono ?_); clear hcall_; rw [HD.out]; rintro e_ w2_ ⟨rfl, hb_⟩; (have hq_ := HH.out.grow hb_.below); clear HH; have HH := hid hq_; clear hq_ hb_)
              | ((with_reducible apply wpL_storeC (t := 34) (vs := d.cells)); rfl; rfl; (exact kS34); (exact HH.out); (exact .here); (exact Arr.len _); (exact cells_one _); (exact Arr.len _); rfl; (intro w_ hq_; clear HH; have HH := hid hq_; clear hq_))
              | ((with_reducible apply wpL_nilCheck); rfl; rfl)
              | ((with_reducible apply wpL_loadArr (t := 34) kA34 HH.out); rfl; (first | exact .here | exact .there .here | exact .there (.there .here) | exact .there (.there (.there .here)) | exact .there (.there (.there (.there .here))) | exact .there (.there (.there (.there (.there .here)))) | exact .there (.there (.there (.there (.there (.there .here))))) | exact .there (.there (.there (.there (.there (.there (.there .here))))))); rfl)
              | ((with_reducible apply wpL_loadC (t := 34) kA34 HH.out); rfl; (first | exact .here | exact .there .here | exact .there (.there .here) | exact .there (.there (.there .here)) | exact .there (.there (.there (.there .here))) | exact .there (.there (.there (.there (.there .here)))) | exact .there (.there (.there (.there (.there (.there .here))))) | exact .there (.there (.there (.there (.there (.there (.there .here))))))); (first | rfl | exact Arr.len _ | (simp; done)); rfl)
              | ((with_reducible apply wpL_len (t := 46) Try.underlying46); rfl; rfl)
              | ((with_reducible apply wpL_boxArr (dst := some 3)); rfl; (exact HH.out); rfl; (intro g3_ w_ hq_; (try simp only [List.set_cons_zero, List.set_cons_succ] at hq_); clear HH; have HH := hid hq_; clear hq_))
              | ((with_reducible apply wpL_allocC (dst := some 6) kZ34 HH.out); rfl; (intro g6_ w_ hq_; (try simp only [List.set_cons_zero, List.set_cons_succ] at hq_); clear HH; have HH := hid hq_; clear hq_))
              | ((with_reducible apply wpL_storeArr (t := 34) kS34 HH.out); rfl; rfl; (first | exact .here | exact .there .here | exact .there (.there .here) | exact .there (.there (.there .here)) | exact .there (.there (.there (.there .here))) | exact .there (.there (.there (.there (.there .here)))) | exact .there (.there (.there (.there (.there (.there .here))))) | exact .there (.there (.there (.there (.there (.there (.there .here))))))); (first | rfl | exact Arr.len _ | (simp; done)); rfl; (intro w_ hq_; (try simp only [List.set_cons_zero, List.set_cons_succ] at hq_); clear HH; have HH := hid hq_; clear hq_))
              | ((with_reducible apply wpL_storeC (t := 34)); rfl; rfl; (exact kS34); (exact HH.out); (first | exact .here | exact .there .here | exact .there (.there .here) | exact .there (.there (.there .here)) | exact .there (.there (.there (.there .here))) | exact .there (.there (.there (.there (.there .here)))) | exact .there (.there (.there (.there (.there (.there .here))))) | exact .there (.there (.there (.there (.there (.there (.there .here))))))); (first | rfl | exact Arr.len _ | (simp; done)); (first | rfl | (intro u_ hu_; simp only [List.mem_cons, List.not_mem_nil, or_false] at hu_; rcases hu_ with rfl | hu_; rfl) | exact byt_cell1 _ | exact cells_one _ | exact wrd_one _ | exact flat_cell1 _); (first | rfl | exact Arr.len _ | (simp; done)); rfl; (intro w_ hq_; (try simp only [List.set_cons_zero, List.set_cons_succ] at hq_); clear HH; have HH := hid hq_; clear hq_))
              | ((with_reducible apply wpL_move); rfl; rfl)
              | ((with_reducible apply wpL_assign); rfl; rfl)
              | ((with_reducible apply wpL_pick); rfl; rfl; rfl)
              | ((with_reducible apply wpL_not); rfl; rfl)
              | ((with_reducible apply wpL_cmp (b := true)); rfl; rfl; rfl; (first | rfl | assumption | (simp only [cmpB, decide_eq_true_eq, decide_eq_false_iff_not, beq_iff_eq, bne_iff_ne, ne_eq, beq_eq_false_iff_ne, bne_eq_false_iff_eq, gt_iff_lt, ge_iff_le]; omega) | (simp; omega)); rfl)
              | ((with_reducible apply wpL_cmp (b := false)); rfl; rfl; rfl; (first | rfl | assumption | (simp only [cmpB, decide_eq_true_eq, decide_eq_false_iff_not, beq_iff_eq, bne_iff_ne, ne_eq, beq_eq_false_iff_ne, bne_eq_false_iff_eq, gt_iff_lt, ge_iff_le]; omega) | (simp; omega)); rfl)
              | ((with_reducible apply wpL_cmp); rfl; rfl; rfl; rfl; rfl)
              | ((with_reducible apply wpL_arith); rfl; rfl; rfl; (exact IntWalk.i64_in _ (by (try simp only [arithI]); omega)); rfl)); (try simp only [arithI, Act.put, Act.eval, List.setIfInBounds_toArray, List.set_cons_succ, List.set_cons_zero, Array.getD_eq_getD_getElem?, List.getElem?_toArray, List.getElem?_cons_succ, List.getElem?_cons_zero, Option.getD_some])))
        refine bodyPost_ret (res2 rfl (resC kA34 HH.out (by rfl) .here (Arr.len _)) (by rfl)) rfl ?_
        exact RetR.mk rfl rfl HH.out.dropBlk.dropBlk.below
/-- What Verify answers. -/
def verB (r x : Nd) (i : Int) (p : List Nd) : Bool := fromC i p.length == 0 && fromV x i p == r
set_option maxRecDepth 100000 in
set_option maxHeartbeats 4000000 in
theorem verify_any (w : World) (v : Value) (r x : Nd) (i : Int) (p : List Nd) (hp : Arrs w v p) (hn : p.length ≤ 1000000000) : Calls Try.prog 53 #[r.val, x.val, .int .i64 i, v] w (RetB w (verB r x i p)) := by
  obtain ⟨ao, cap, rfl, _⟩ := hp.shape
  have HP := hid hp
  clear hp
  have HH := hid (Holds.init w)
  obtain ⟨c, hc⟩ : ∃ c, fromC i p.length = c := ⟨_, rfl⟩
  obtain ⟨d, hd⟩ : ∃ d, fromV x i p = d := ⟨_, rfl⟩
  have HC := hid hc
  have HD := hid hd
  obtain ⟨b, hb⟩ : ∃ b, verB r x i p = b := ⟨_, rfl⟩
  have hvb := hb
  unfold verB at hvb
  rw [hc, hd] at hvb
  have HB := hid hvb
  rw [hb]
  clear hb hvb hc hd
  by_cases h0 : c = 0
  · subst h0
    have HE := hid (show (d == r) = b by rw [← HB.out]; simp)
    go_enter Try.func53, Try.ntmps53
    go_wp2_with (first
      | ((first
          | ((with_reducible apply wpL_skip); rfl; skip)
          | (go_at_call 54; (have hcall_ := hid (from_any _ (.slice ao p.length cap) x i p (HH.out.sl HP.out) hn)); (with_reducible refine hcall_.out.mono ?_); clear hcall_; rw [HC.out, HD.out]; rintro e_ w2_ ⟨rfl, hb_⟩; (have hq_ := HH.out.grow hb_); clear HH; have HH := hid hq_; clear hq_ hb_)
          | ((with_reducible apply wpL_eqlA (b := b) (p := d) (q := r) kR34); rfl; rfl; (exact HE.out); rfl)
          | ((with_reducible apply wpL_nilCheck); rfl; rfl)
          | ((with_reducible apply wpL_loadArr (t := 34) kA34 HH.out); rfl; (first | exact .here | exact .there .here | exact .there (.there .here) | exact .there (.there (.there .here)) | exact .there (.there (.there (.there .here))) | exact .there (.there (.there (.there (.there .here)))) | exact .there (.there (.there (.there (.there (.there .here))))) | exact .there (.there (.there (.there (.there (.there (.there .here))))))); rfl)
          | ((with_reducible apply wpL_loadC (t := 34) kA34 HH.out); rfl; (first | exact .here | exact .there .here | exact .there (.there .here) | exact .there (.there (.there .here)) | exact .there (.there (.there (.there .here))) | exact .there (.there (.there (.there (.there .here)))) | exact .there (.there (.there (.there (.there (.there .here))))) | exact .there (.there (.there (.there (.there (.there (.there .here))))))); (first | rfl | exact Arr.len _ | (simp; done)); rfl)
          | ((with_reducible apply wpL_boxArr (dst := some 4)); rfl; (exact HH.out); rfl; (intro g4_ w_ hq_; (try simp only [List.set_cons_zero, List.set_cons_succ] at hq_); clear HH; have HH := hid hq_; clear hq_))
          | ((with_reducible apply wpL_boxArr (dst := some 5)); rfl; (exact HH.out); rfl; (intro g5_ w_ hq_; (try simp only [List.set_cons_zero, List.set_cons_succ] at hq_); clear HH; have HH := hid hq_; clear hq_))
          | ((with_reducible apply wpL_allocC (dst := some 9) kZ34 HH.out); rfl; (intro g9_ w_ hq_; (try simp only [List.set_cons_zero, List.set_cons_succ] at hq_); clear HH; have HH := hid hq_; clear hq_))
          | ((with_reducible apply wpL_storeArr (t := 34) kS34 HH.out); rfl; rfl; (first | exact .here | exact .there .here | exact .there (.there .here) | exact .there (.there (.there .here)) | exact .there (.there (.there (.there .here))) | exact .there (.there (.there (.there (.there .here)))) | exact .there (.there (.there (.there (.there (.there .here))))) | exact .there (.there (.there (.there (.there (.there (.there .here))))))); (first | rfl | exact Arr.len _ | (simp; done)); rfl; (intro w_ hq_; (try simp only [List.set_cons_zero, List.set_cons_succ] at hq_); clear HH; have HH := hid hq_; clear hq_))
          | ((with_reducible apply wpL_storeC (t := 34)); rfl; rfl; (exact kS34); (exact HH.out); (first | exact .here | exact .there .here | exact .there (.there .here) | exact .there (.there (.there .here)) | exact .there (.there (.there (.there .here))) | exact .there (.there (.there (.there (.there .here)))) | exact .there (.there (.there (.there (.there (.there .here))))) | exact .there (.there (.there (.there (.there (.there (.there .here))))))); (first | rfl | exact Arr.len _ | (simp; done)); (first | rfl | (intro u_ hu_; simp only [List.mem_cons, List.not_mem_nil, or_false] at hu_; rcases hu_ with rfl | hu_; rfl) | exact byt_cell1 _ | exact cells_one _ | exact wrd_one _ | exact flat_cell1 _); (first | rfl | exact Arr.len _ | (simp; done)); rfl; (intro w_ hq_; (try simp only [List.set_cons_zero, List.set_cons_succ] at hq_); clear HH; have HH := hid hq_; clear hq_))
          | ((with_reducible apply wpL_move); rfl; rfl)
          | ((with_reducible apply wpL_assign); rfl; rfl)
          | ((with_reducible apply wpL_pick); rfl; rfl; rfl)
          | ((with_reducible apply wpL_not); rfl; rfl)
          | ((with_reducible apply wpL_cmp (b := true)); rfl; rfl; rfl; (first | rfl | assumption | (simp only [cmpB, decide_eq_true_eq, decide_eq_false_iff_not, beq_iff_eq, bne_iff_ne, ne_eq, beq_eq_false_iff_ne, bne_eq_false_iff_eq, gt_iff_lt, ge_iff_le]; omega) | (simp; omega)); rfl)
          | ((with_reducible apply wpL_cmp (b := false)); rfl; rfl; rfl; (first | rfl | assumption | (simp only [cmpB, decide_eq_true_eq, decide_eq_false_iff_not, beq_iff_eq, bne_iff_ne, ne_eq, beq_eq_false_iff_ne, bne_eq_false_iff_eq, gt_iff_lt, ge_iff_le]; omega) | (simp; omega)); rfl)
          | ((with_reducible apply wpL_cmp); rfl; rfl; rfl; rfl; rfl)
          | ((with_reducible apply wpL_arith); rfl; rfl; rfl; (exact IntWalk.i64_in _ (by (try simp only [arithI]); omega)); rfl)); (try simp only [arithI, Act.put, Act.eval, List.setIfInBounds_toArray, List.set_cons_succ, List.set_cons_zero, Array.getD_eq_getD_getElem?, List.getElem?_toArray, List.getElem?_cons_succ, List.getElem?_cons_zero, Option.getD_some])))
    go_ret
    exact RetB.mk rfl HH.out.dropBlk.dropBlk.dropBlk.below
  · have hcb : (c == 0) = false := by simpa using h0
    have HE := hid (show false = b by rw [← HB.out, hcb]; rfl)
    go_enter Try.func53, Try.ntmps53
    go_wp2_with (first
      | ((first
          | ((with_reducible apply wpL_skip); rfl; skip)
          | (go_at_call 54; (have hcall_ := hid (from_any _ (.slice ao p.length cap) x i p (HH.out.sl HP.out) hn)); (with_reducible refine hcall_.out.mono ?_); clear hcall_; rw [HC.out, HD.out]; rintro e_ w2_ ⟨rfl, hb_⟩; (have hq_ := HH.out.grow hb_); clear HH; have HH := hid hq_; clear hq_ hb_)
          | ((with_reducible apply wpL_nilCheck); rfl; rfl)
          | ((with_reducible apply wpL_loadArr (t := 34) kA34 HH.out); rfl; (first | exact .here | exact .there .here | exact .there (.there .here) | exact .there (.there (.there .here)) | exact .there (.there (.there (.there .here))) | exact .there (.there (.there (.there (.there .here)))) | exact .there (.there (.there (.there (.there (.there .here))))) | exact .there (.there (.there (.there (.there (.there (.there .here))))))); rfl)
          | ((with_reducible apply wpL_loadC (t := 34) kA34 HH.out); rfl; (first | exact .here | exact .there .here | exact .there (.there .here) | exact .there (.there (.there .here)) | exact .there (.there (.there (.there .here))) | exact .there (.there (.there (.there (.there .here)))) | exact .there (.there (.there (.there (.there (.there .here))))) | exact .there (.there (.there (.there (.there (.there (.there .here))))))); (first | rfl | exact Arr.len _ | (simp; done)); rfl)
          | ((with_reducible apply wpL_boxArr (dst := some 4)); rfl; (exact HH.out); rfl; (intro g4_ w_ hq_; (try simp only [List.set_cons_zero, List.set_cons_succ] at hq_); clear HH; have HH := hid hq_; clear hq_))
          | ((with_reducible apply wpL_boxArr (dst := some 5)); rfl; (exact HH.out); rfl; (intro g5_ w_ hq_; (try simp only [List.set_cons_zero, List.set_cons_succ] at hq_); clear HH; have HH := hid hq_; clear hq_))
          | ((with_reducible apply wpL_allocC (dst := some 9) kZ34 HH.out); rfl; (intro g9_ w_ hq_; (try simp only [List.set_cons_zero, List.set_cons_succ] at hq_); clear HH; have HH := hid hq_; clear hq_))
          | ((with_reducible apply wpL_storeArr (t := 34) kS34 HH.out); rfl; rfl; (first | exact .here | exact .there .here | exact .there (.there .here) | exact .there (.there (.there .here)) | exact .there (.there (.there (.there .here))) | exact .there (.there (.there (.there (.there .here)))) | exact .there (.there (.there (.there (.there (.there .here))))) | exact .there (.there (.there (.there (.there (.there (.there .here))))))); (first | rfl | exact Arr.len _ | (simp; done)); rfl; (intro w_ hq_; (try simp only [List.set_cons_zero, List.set_cons_succ] at hq_); clear HH; have HH := hid hq_; clear hq_))
          | ((with_reducible apply wpL_storeC (t := 34)); rfl; rfl; (exact kS34); (exact HH.out); (first | exact .here | exact .there .here | exact .there (.there .here) | exact .there (.there (.there .here)) | exact .there (.there (.there (.there .here))) | exact .there (.there (.there (.there (.there .here)))) | exact .there (.there (.there (.there (.there (.there .here))))) | exact .there (.there (.there (.there (.there (.there (.there .here))))))); (first | rfl | exact Arr.len _ | (simp; done)); (first | rfl | (intro u_ hu_; simp only [List.mem_cons, List.not_mem_nil, or_false] at hu_; rcases hu_ with rfl | hu_; rfl) | exact byt_cell1 _ | exact cells_one _ | exact wrd_one _ | exact flat_cell1 _); (first | rfl | exact Arr.len _ | (simp; done)); rfl; (intro w_ hq_; (try simp only [List.set_cons_zero, List.set_cons_succ] at hq_); clear HH; have HH := hid hq_; clear hq_))
          | ((with_reducible apply wpL_move); rfl; rfl)
          | ((with_reducible apply wpL_assign); rfl; rfl)
          | ((with_reducible apply wpL_pick); rfl; rfl; rfl)
          | ((with_reducible apply wpL_not); rfl; rfl)
          | ((with_reducible apply wpL_cmp (b := true)); rfl; rfl; rfl; (first | rfl | assumption | (simp only [cmpB, decide_eq_true_eq, decide_eq_false_iff_not, beq_iff_eq, bne_iff_ne, ne_eq, beq_eq_false_iff_ne, bne_eq_false_iff_eq, gt_iff_lt, ge_iff_le]; omega) | (simp; omega)); rfl)
          | ((with_reducible apply wpL_cmp (b := false)); rfl; rfl; rfl; (first | rfl | assumption | (simp only [cmpB, decide_eq_true_eq, decide_eq_false_iff_not, beq_iff_eq, bne_iff_ne, ne_eq, beq_eq_false_iff_ne, bne_eq_false_iff_eq, gt_iff_lt, ge_iff_le]; omega) | (simp; omega)); rfl)
          | ((with_reducible apply wpL_cmp); rfl; rfl; rfl; rfl; rfl)
          | ((with_reducible apply wpL_arith); rfl; rfl; rfl; (exact IntWalk.i64_in _ (by (try simp only [arithI]); omega)); rfl)); (try simp only [arithI, Act.put, Act.eval, List.setIfInBounds_toArray, List.set_cons_succ, List.set_cons_zero, Array.getD_eq_getD_getElem?, List.getElem?_toArray, List.getElem?_cons_succ, List.getElem?_cons_zero, Option.getD_some])))
    go_ret
    exact RetB.mk HE.out HH.out.dropBlk.dropBlk.dropBlk.below
end Go.Proofs.Ytgkfopodhikckaa

/- The example of the merkle laws. No condition. -/
namespace Go.Proofs.Ytgkfopodhikckaa
open Go.RowKit
attribute [local irreducible] wpQuiet wpList
set_option maxRecDepth 100000 in
theorem leaf_ne : ((sumB (leafPre 0 ++ [97])).1.take 16 == (sumB (leafPre 1 ++ [98])).1.take 16) = false := by rw [sumB_P, sumB_P]; kernel_rfl
theorem leaf_ne' : (!(leafN 0 [97] == leafN 1 [98])) = true := by
  rw [Bool.not_eq_true', beq_eq_false_iff_ne]
  intro e
  have h := leaf_ne
  have e2 : (leafN 0 [97]).1 = (leafN 1 [98]).1 := by rw [e]
  have e3 : (sumB (leafPre 0 ++ [97])).1.take 16 = (sumB (leafPre 1 ++ [98])).1.take 16 := e2
  rw [e3] at h
  simp at h
theorem check_two : checkC 2 = 0 := by decide +kernel
theorem log_two : Nat.log2 2 = 1 := by decide +kernel
theorem root_two (a b : Nd) : rootV [a, b] = joinN 1 a b := by
  unfold rootV rootN
  rw [show [a, b].length = 2 from rfl, if_pos check_two, log_two]
  rfl
theorem ver_two (a b : Nd) : verB (joinN 1 a b) b 1 [a] = true := by
  have e1 : fromC 1 [a].length = 0 := (by decide : fromC 1 1 = 0)
  have e2 : fromV b 1 [a] = joinN 1 a b := by unfold fromV; rw [if_pos e1]; rfl
  unfold verB
  rw [e1, e2]
  simp
set_option maxRecDepth 100000 in
set_option maxHeartbeats 4000000 in
theorem knownM_any (w : World) : Calls Try.prog 23 #[] w (RetB w true) := by
  have HH := hid (Holds.init w)
  obtain ⟨a, ha⟩ : ∃ a, leafN 0 [97] = a := ⟨_, rfl⟩
  obtain ⟨b, hb⟩ : ∃ b, leafN 1 [98] = b := ⟨_, rfl⟩
  have HNE := hid leaf_ne'
  rw [ha, hb] at HNE
  obtain ⟨r, hr⟩ : ∃ r, joinN 1 a b = r := ⟨_, rfl⟩
  have HR := hid (root_two a b)
  have HV := hid (ver_two a b)
  rw [hr] at HR HV
  have HJ := hid hr
  have HA := hid ha
  have HB := hid hb
  have HCK := hid (show checkC [a, b].length = 0 from check_two)
  clear ha hb hr
  go_enter Try.func23, Try.ntmps23
  go_wp2_with (first
    | ((first
        | ((with_reducible apply wpL_skip); rfl; skip)
        | ((with_reducible apply wpL_buildB [97] (dst := some 5)); rfl; rfl; (exact (by omega)); (exact HH.out); rfl; (intro g_ w_ hq_; clear HH; have HH := hid hq_; clear hq_))
        | ((with_reducible apply wpL_buildB [98] (dst := some 8)); rfl; rfl; (exact (by omega)); (exact HH.out); rfl; (intro g_ w_ hq_; clear HH; have HH := hid hq_; clear hq_))
        | ((with_reducible apply wpL_convConst (dst := some 6) (l := [97]) Try.underlying22 Try.underlying5 HH.out); rfl; rfl; rfl; (intro w_ hq_ hb_; clear HH; have HH := hid hq_; have HB6 := hid hb_; clear hq_ hb_))
        | ((with_reducible apply wpL_convConst (dst := some 9) (l := [98]) Try.underlying22 Try.underlying5 HH.out); rfl; rfl; rfl; (intro w_ hq_ hb_; clear HH; have HH := hid hq_; have HB9 := hid hb_; clear hq_ hb_))
        | (go_at_call 45; (have hcall_ := hid (leaf_any _ 0 _ [97] HB6.out (by simp))); (with_reducible refine hcall_.out.mono ?_); clear hcall_; rw [HA.out]; rintro e_ w2_ ⟨rfl, hb_⟩; (have hq_ := HH.out.grow hb_); clear HH; have HH := hid hq_; clear hq_ hb_)
        | (go_at_call 45; (have hcall_ := hid (leaf_any _ 1 _ [98] HB9.out (by simp))); (with_reducible refine hcall_.out.mono ?_); clear hcall_; rw [HB.out]; rintro e_ w2_ ⟨rfl, hb_⟩; (have hq_ := HH.out.grow hb_); clear HH; have HH := hid hq_; clear hq_ hb_)
        | ((with_reducible apply wpList_buildArr (dst := some 14) kE46 [a, b] HH.out); rfl; rfl; (exact (by decide)); rfl; (intro g_ w_ hq_; clear HH; have HH := hid hq_; clear hq_))
        | (go_at_call 38; (have hcall_ := hid (root_any _ _ [a, b] HH.out.sl0 (by simp))); (with_reducible refine hcall_.out.mono ?_); clear hcall_; rw [HR.out, HCK.out]; rintro e_ w2_ ⟨rfl, hb_⟩; (have hq_ := HH.out.grow hb_); clear HH; have HH := hid hq_; clear hq_ hb_)
        | ((with_reducible apply wpL_nilCheck); rfl; rfl)
        | ((with_reducible apply wpL_loadArr (t := 34) kA34 HH.out); rfl; (first | exact .here | exact .there .here | exact .there (.there .here) | exact .there (.there (.there .here)) | exact .there (.there (.there (.there .here))) | exact .there (.there (.there (.there (.there .here)))) | exact .there (.there (.there (.there (.there (.there .here))))) | exact .there (.there (.there (.there (.there (.there (.there .here))))))); rfl)
        | ((with_reducible apply wpL_loadC (t := 34) kA34 HH.out); rfl; (first | exact .here | exact .there .here | exact .there (.there .here) | exact .there (.there (.there .here)) | exact .there (.there (.there (.there .here))) | exact .there (.there (.there (.there (.there .here)))) | exact .there (.there (.there (.there (.there (.there .here))))) | exact .there (.there (.there (.there (.there (.there (.there .here))))))); (first | rfl | exact Arr.len _ | (simp; done)); rfl)
        | ((with_reducible apply wpL_allocC (dst := some 1) kZ34 HH.out); rfl; (intro g1_ w_ hq_; (try simp only [List.set_cons_zero, List.set_cons_succ] at hq_); clear HH; have HH := hid hq_; clear hq_))
        | ((with_reducible apply wpL_allocC (dst := some 2) kZ34 HH.out); rfl; (intro g2_ w_ hq_; (try simp only [List.set_cons_zero, List.set_cons_succ] at hq_); clear HH; have HH := hid hq_; clear hq_))
        | ((with_reducible apply wpL_allocC (dst := some 3) kZ34 HH.out); rfl; (intro g3_ w_ hq_; (try simp only [List.set_cons_zero, List.set_cons_succ] at hq_); clear HH; have HH := hid hq_; clear hq_))
        | ((with_reducible apply wpL_storeArr (t := 34) kS34 HH.out); rfl; rfl; (first | exact .here | exact .there .here | exact .there (.there .here) | exact .there (.there (.there .here)) | exact .there (.there (.there (.there .here))) | exact .there (.there (.there (.there (.there .here)))) | exact .there (.there (.there (.there (.there (.there .here))))) | exact .there (.there (.there (.there (.there (.there (.there .here))))))); (first | rfl | exact Arr.len _ | (simp; done)); rfl; (intro w_ hq_; (try simp only [List.set_cons_zero, List.set_cons_succ] at hq_); clear HH; have HH := hid hq_; clear hq_))
        | ((with_reducible apply wpL_storeC (t := 34)); rfl; rfl; (exact kS34); (exact HH.out); (first | exact .here | exact .there .here | exact .there (.there .here) | exact .there (.there (.there .here)) | exact .there (.there (.there (.there .here))) | exact .there (.there (.there (.there (.there .here)))) | exact .there (.there (.there (.there (.there (.there .here))))) | exact .there (.there (.there (.there (.there (.there (.there .here))))))); (first | rfl | exact Arr.len _ | (simp; done)); (first | rfl | (intro u_ hu_; simp only [List.mem_cons, List.not_mem_nil, or_false] at hu_; rcases hu_ with rfl | hu_; rfl) | exact byt_cell1 _ | exact cells_one _ | exact wrd_one _ | exact flat_cell1 _); (first | rfl | exact Arr.len _ | (simp; done)); rfl; (intro w_ hq_; (try simp only [List.set_cons_zero, List.set_cons_succ] at hq_); clear HH; have HH := hid hq_; clear hq_))
        | ((with_reducible apply wpL_move); rfl; rfl)
        | ((with_reducible apply wpL_assign); rfl; rfl)
        | ((with_reducible apply wpL_pick); rfl; rfl; rfl)
        | ((with_reducible apply wpL_not); rfl; rfl)
        | ((with_reducible apply wpL_cmp (b := true)); rfl; rfl; rfl; (first | rfl | assumption | (simp only [cmpB, decide_eq_true_eq, decide_eq_false_iff_not, beq_iff_eq, bne_iff_ne, ne_eq, beq_eq_false_iff_ne, bne_eq_false_iff_eq, gt_iff_lt, ge_iff_le]; omega) | (simp; omega)); rfl)
        | ((with_reducible apply wpL_cmp (b := false)); rfl; rfl; rfl; (first | rfl | assumption | (simp only [cmpB, decide_eq_true_eq, decide_eq_false_iff_not, beq_iff_eq, bne_iff_ne, ne_eq, beq_eq_false_iff_ne, bne_eq_false_iff_eq, gt_iff_lt, ge_iff_le]; omega) | (simp; omega)); rfl)
        | ((with_reducible apply wpL_cmp); rfl; rfl; rfl; rfl; rfl)
        | ((with_reducible apply wpL_arith); rfl; rfl; rfl; (exact IntWalk.i64_in _ (by (try simp only [arithI]); omega)); rfl)); (try simp only [arithI, Act.put, Act.eval, List.setIfInBounds_toArray, List.set_cons_succ, List.set_cons_zero, Array.getD_eq_getD_getElem?, List.getElem?_toArray, List.getElem?_cons_succ, List.getElem?_cons_zero, Option.getD_some])))
  refine wp_region_tailR 19 [Asr.is (.int .i64 0), Asr.is (.bool true), Asr.is (.bool true), Asr.is a.val, Asr.is b.val, Asr.is (.bool true), Asr.is (.bool true), Asr.is (.bool true), Asr.is r.val, Asr.is a.val, Asr.is b.val, Asr.is r.val, Asr.is (.bool true), Asr.is (.bool true), Asr.is (.bool true), Asr.is r.val, Asr.is b.val, Asr.is a.val, Asr.full w_.heap.size 34 16 1 (flat [a])] HH.out (by kernel_rfl) (by kernel_rfl) (by kernel_rfl) rfl ?_ ?_
  all_goals simp only [List.take_succ_cons, List.take_zero, List.drop_succ_cons, List.drop_zero]
  · refine eachD_cons ?_ (eachD_cons ?_ (eachD_cons ?_ (eachD_cons ?_ (eachD_cons ?_ (eachD_cons ?_ (eachD_cons ?_ (eachD_cons ?_ (eachD_cons ?_ (eachD_cons ?_ (eachD_cons ?_ (eachD_cons ?_ (eachD_cons ?_ (eachD_cons ?_ (eachD_cons ?_ (eachD_cons ?_ (eachD_cons ?_ (eachD_cons ?_ (eachD_cons ?_ (eachD_nil)))))))))))))))))))
    · intro a_ w1 hI hF hS
      have e4 : a_.eval (.tmp 4) = (.int .i64 0) := (hF.2.2 4 (notDst_of (by kernel_rfl))).trans rfl
      refine wantD (by rfl) ?_
      exact op_val rfl (ex_move rfl w1) e4
    · intro a_ w1 hI hF hS
      have e18 : a_.eval (.tmp 18) = (.int .i64 0) := hS ⟨0, .data⟩ (by simp) rfl _ rfl
      refine wantD (by rfl) ?_
      exact op_val rfl (ex_cmp (b := true) rfl e18 (by rfl) (by rfl) w1) rfl
    · intro a_ w1 hI hF hS
      have e19 : a_.eval (.tmp 19) = (.bool true) := hS ⟨1, .data⟩ (by simp) rfl _ rfl
      refine wantD (by rfl) ?_
      exact op_val rfl (ex_move rfl w1) e19
    · intro a_ w1 hI hF hS
      have e1 : a_.eval (.tmp 1) = (.pointer (some ⟨g1_, 0, none⟩)) := (hF.2.2 1 (notDst_of (by kernel_rfl))).trans rfl
      have e20 : a_.eval (.tmp 20) = (.bool true) := hS ⟨2, .guard⟩ (by simp) rfl _ rfl
      refine wantD (wanted_of (j := 2) (b := true) (want := true) (by rfl) (by rfl) e20 rfl) ?_
      exact op_val rfl (ex_loadA kA34 hI.1 e1 (by first | exact .here | exact .there .here | exact .there (.there .here))) rfl
    · intro a_ w1 hI hF hS
      have e2 : a_.eval (.tmp 2) = (.pointer (some ⟨g2_, 0, none⟩)) := (hF.2.2 2 (notDst_of (by kernel_rfl))).trans rfl
      have e20 : a_.eval (.tmp 20) = (.bool true) := hS ⟨2, .guard⟩ (by simp) rfl _ rfl
      refine wantD (wanted_of (j := 2) (b := true) (want := true) (by rfl) (by rfl) e20 rfl) ?_
      exact op_val rfl (ex_loadA kA34 hI.1 e2 (by first | exact .here | exact .there .here | exact .there (.there .here))) rfl
    · intro a_ w1 hI hF hS
      have e21 : a_.eval (.tmp 21) = a.val := hS ⟨3, .data⟩ (by simp) rfl _ rfl
      have e22 : a_.eval (.tmp 22) = b.val := hS ⟨4, .data⟩ (by simp) rfl _ rfl
      have e20 : a_.eval (.tmp 20) = (.bool true) := hS ⟨2, .guard⟩ (by simp) rfl _ rfl
      refine wantD (wanted_of (j := 2) (b := true) (want := true) (by rfl) (by rfl) e20 rfl) ?_
      exact op_val rfl (ex_neq_arr Try.underlying34 Try.underlying5 (by kernel_rfl) (by kernel_rfl) e21 e22 w1) (congrArg Value.bool HNE.out)
    · intro a_ w1 hI hF hS
      have e20 : a_.eval (.tmp 20) = (.bool true) := hS ⟨2, .data⟩ (by simp) rfl _ rfl
      have e23 : a_.eval (.tmp 23) = (.bool true) := hS ⟨5, .data⟩ (by simp) rfl _ rfl
      refine wantD (by rfl) ?_
      exact op_val rfl (ex_pick e20 rfl w1) e23
    · intro a_ w1 hI hF hS
      have e24 : a_.eval (.tmp 24) = (.bool true) := hS ⟨6, .data⟩ (by simp) rfl _ rfl
      refine wantD (by rfl) ?_
      exact op_val rfl (ex_move rfl w1) e24
    · intro a_ w1 hI hF hS
      have e3 : a_.eval (.tmp 3) = (.pointer (some ⟨g3_, 0, none⟩)) := (hF.2.2 3 (notDst_of (by kernel_rfl))).trans rfl
      have e25 : a_.eval (.tmp 25) = (.bool true) := hS ⟨7, .guard⟩ (by simp) rfl _ rfl
      refine wantD (wanted_of (j := 7) (b := true) (want := true) (by rfl) (by rfl) e25 rfl) ?_
      exact op_val rfl (ex_loadA kA34 hI.1 e3 (by first | exact .here | exact .there .here | exact .there (.there .here))) rfl
    · intro a_ w1 hI hF hS
      have e1 : a_.eval (.tmp 1) = (.pointer (some ⟨g1_, 0, none⟩)) := (hF.2.2 1 (notDst_of (by kernel_rfl))).trans rfl
      have e25 : a_.eval (.tmp 25) = (.bool true) := hS ⟨7, .guard⟩ (by simp) rfl _ rfl
      refine wantD (wanted_of (j := 7) (b := true) (want := true) (by rfl) (by rfl) e25 rfl) ?_
      exact op_val rfl (ex_loadA kA34 hI.1 e1 (by first | exact .here | exact .there .here | exact .there (.there .here))) rfl
    · intro a_ w1 hI hF hS
      have e2 : a_.eval (.tmp 2) = (.pointer (some ⟨g2_, 0, none⟩)) := (hF.2.2 2 (notDst_of (by kernel_rfl))).trans rfl
      have e25 : a_.eval (.tmp 25) = (.bool true) := hS ⟨7, .guard⟩ (by simp) rfl _ rfl
      refine wantD (wanted_of (j := 7) (b := true) (want := true) (by rfl) (by rfl) e25 rfl) ?_
      exact op_val rfl (ex_loadA kA34 hI.1 e2 (by first | exact .here | exact .there .here | exact .there (.there .here))) rfl
    · intro a_ w1 hI hF hS
      have e27 : a_.eval (.tmp 27) = a.val := hS ⟨9, .data⟩ (by simp) rfl _ rfl
      have e28 : a_.eval (.tmp 28) = b.val := hS ⟨10, .data⟩ (by simp) rfl _ rfl
      have e25 : a_.eval (.tmp 25) = (.bool true) := hS ⟨7, .chain⟩ (by simp) rfl _ rfl
      refine wantD (wanted_of (j := 7) (b := true) (want := true) (by rfl) (by rfl) e25 rfl) ?_
      exact op_call (args := #[.int .i64 1, a.val, b.val]) kB37 (by show #[_, a_.eval (.tmp 27), a_.eval (.tmp 28)] = _; rw [e27, e28]; rfl) ((join_any w1 1 a b).mono fun e w' ⟨he, hb⟩ => ⟨_, he, hb, by rw [HJ.out]; rfl⟩)
    · intro a_ w1 hI hF hS
      have e26 : a_.eval (.tmp 26) = r.val := hS ⟨8, .data⟩ (by simp) rfl _ rfl
      have e29 : a_.eval (.tmp 29) = r.val := hS ⟨11, .data⟩ (by simp) rfl _ rfl
      have e25 : a_.eval (.tmp 25) = (.bool true) := hS ⟨7, .guard⟩ (by simp) rfl _ rfl
      refine wantD (wanted_of (j := 7) (b := true) (want := true) (by rfl) (by rfl) e25 rfl) ?_
      exact op_val rfl (ex_eql_arr Try.underlying34 Try.underlying5 (by kernel_rfl) (by kernel_rfl) e26 e29 w1) (congrArg Value.bool (arrRefl _))
    · intro a_ w1 hI hF hS
      have e25 : a_.eval (.tmp 25) = (.bool true) := hS ⟨7, .data⟩ (by simp) rfl _ rfl
      have e30 : a_.eval (.tmp 30) = (.bool true) := hS ⟨12, .data⟩ (by simp) rfl _ rfl
      refine wantD (by rfl) ?_
      exact op_val rfl (ex_pick e25 rfl w1) e30
    · intro a_ w1 hI hF hS
      have e31 : a_.eval (.tmp 31) = (.bool true) := hS ⟨13, .data⟩ (by simp) rfl _ rfl
      refine wantD (by rfl) ?_
      exact op_val rfl (ex_move rfl w1) e31
    · intro a_ w1 hI hF hS
      have e3 : a_.eval (.tmp 3) = (.pointer (some ⟨g3_, 0, none⟩)) := (hF.2.2 3 (notDst_of (by kernel_rfl))).trans rfl
      have e32 : a_.eval (.tmp 32) = (.bool true) := hS ⟨14, .guard⟩ (by simp) rfl _ rfl
      refine wantD (wanted_of (j := 14) (b := true) (want := true) (by rfl) (by rfl) e32 rfl) ?_
      exact op_val rfl (ex_loadA kA34 hI.1 e3 (by first | exact .here | exact .there .here | exact .there (.there .here))) rfl
    · intro a_ w1 hI hF hS
      have e2 : a_.eval (.tmp 2) = (.pointer (some ⟨g2_, 0, none⟩)) := (hF.2.2 2 (notDst_of (by kernel_rfl))).trans rfl
      have e32 : a_.eval (.tmp 32) = (.bool true) := hS ⟨14, .guard⟩ (by simp) rfl _ rfl
      refine wantD (wanted_of (j := 14) (b := true) (want := true) (by rfl) (by rfl) e32 rfl) ?_
      exact op_val rfl (ex_loadA kA34 hI.1 e2 (by first | exact .here | exact .there .here | exact .there (.there .here))) rfl
    · intro a_ w1 hI hF hS
      have e1 : a_.eval (.tmp 1) = (.pointer (some ⟨g1_, 0, none⟩)) := (hF.2.2 1 (notDst_of (by kernel_rfl))).trans rfl
      have e32 : a_.eval (.tmp 32) = (.bool true) := hS ⟨14, .guard⟩ (by simp) rfl _ rfl
      refine wantD (wanted_of (j := 14) (b := true) (want := true) (by rfl) (by rfl) e32 rfl) ?_
      exact op_val rfl (ex_loadA kA34 hI.1 e1 (by first | exact .here | exact .there .here | exact .there (.there .here))) rfl
    · intro a_ w1 hI hF hS
      have e35 : a_.eval (.tmp 35) = a.val := hS ⟨17, .data⟩ (by simp) rfl _ rfl
      have e32 : a_.eval (.tmp 32) = (.bool true) := hS ⟨14, .guard⟩ (by simp) rfl _ rfl
      refine wantD (wanted_of (j := 14) (b := true) (want := true) (by rfl) (by rfl) e32 rfl) ?_
      obtain ⟨v_, w_, hr_, hb_, hA_⟩ := ex_buildArr (ρ := a_.eval) kE46 [a] (parts := #[(0, .tmp 35)]) (n := 1) rfl (by simp [e35]) (by decide) w1; exact op_new rfl hr_ hb_ (hA_ _ hI.2.size)
  intro wq hq_ hb_
  intro v0_ h0_ v1_ h1_ v2_ h2_ v3_ h3_ v4_ h4_ v5_ h5_ v6_ h6_ v7_ h7_ v8_ h8_ v9_ h9_ v10_ h10_ v11_ h11_ v12_ h12_ v13_ h13_ v14_ h14_ v15_ h15_ v16_ h16_ v17_ h17_ v18_ h18_
  have q_ : v0_ = (.int .i64 0) := h0_; clear h0_; subst q_
  have q_ : v1_ = (.bool true) := h1_; clear h1_; subst q_
  have q_ : v2_ = (.bool true) := h2_; clear h2_; subst q_
  have q_ : v3_ = a.val := h3_; clear h3_; subst q_
  have q_ : v4_ = b.val := h4_; clear h4_; subst q_
  have q_ : v5_ = (.bool true) := h5_; clear h5_; subst q_
  have q_ : v6_ = (.bool true) := h6_; clear h6_; subst q_
  have q_ : v7_ = (.bool true) := h7_; clear h7_; subst q_
  have q_ : v8_ = r.val := h8_; clear h8_; subst q_
  have q_ : v9_ = a.val := h9_; clear h9_; subst q_
  have q_ : v10_ = b.val := h10_; clear h10_; subst q_
  have q_ : v11_ = r.val := h11_; clear h11_; subst q_
  have q_ : v12_ = (.bool true) := h12_; clear h12_; subst q_
  have q_ : v13_ = (.bool true) := h13_; clear h13_; subst q_
  have q_ : v14_ = (.bool true) := h14_; clear h14_; subst q_
  have q_ : v15_ = r.val := h15_; clear h15_; subst q_
  have q_ : v16_ = b.val := h16_; clear h16_; subst q_
  have q_ : v17_ = a.val := h17_; clear h17_; subst q_
  have K18 := hid h18_; clear h18_
  simp only [endD, putsD, Act.put, List.setIfInBounds_toArray, List.set_cons_succ, List.set_cons_zero]
  have HQ := hid hq_; clear hq_
  have HB_ := hid hb_; clear hb_
  obtain ⟨aa, ca, rfl⟩ := row_shape K18.out.2
  have hq2_ := HH.out.addRow HB_.out K18.out.2
  clear HH HQ K18 HB_
  have HH := hid hq2_
  clear hq2_
  go_wp2_with (first
    | ((first
        | ((with_reducible apply wpL_skip); rfl; skip)
        | (go_at_call 53; (have hcall_ := hid (verify_any _ (.slice aa 1 ca) r b 1 [a] HH.out.sl0 (by simp))); (with_reducible refine hcall_.out.mono ?_); clear hcall_; rw [HV.out]; rintro e_ w2_ ⟨rfl, hb_⟩; (have hq_ := HH.out.grow hb_); clear HH; have HH := hid hq_; clear hq_ hb_)
        | ((with_reducible apply wpL_nilCheck); rfl; rfl)
        | ((with_reducible apply wpL_loadArr (t := 34) kA34 HH.out); rfl; (first | exact .here | exact .there .here | exact .there (.there .here) | exact .there (.there (.there .here)) | exact .there (.there (.there (.there .here))) | exact .there (.there (.there (.there (.there .here)))) | exact .there (.there (.there (.there (.there (.there .here))))) | exact .there (.there (.there (.there (.there (.there (.there .here))))))); rfl)
        | ((with_reducible apply wpL_loadC (t := 34) kA34 HH.out); rfl; (first | exact .here | exact .there .here | exact .there (.there .here) | exact .there (.there (.there .here)) | exact .there (.there (.there (.there .here))) | exact .there (.there (.there (.there (.there .here)))) | exact .there (.there (.there (.there (.there (.there .here))))) | exact .there (.there (.there (.there (.there (.there (.there .here))))))); (first | rfl | exact Arr.len _ | (simp; done)); rfl)
        | ((with_reducible apply wpL_allocC (dst := some 1) kZ34 HH.out); rfl; (intro g1_ w_ hq_; (try simp only [List.set_cons_zero, List.set_cons_succ] at hq_); clear HH; have HH := hid hq_; clear hq_))
        | ((with_reducible apply wpL_allocC (dst := some 2) kZ34 HH.out); rfl; (intro g2_ w_ hq_; (try simp only [List.set_cons_zero, List.set_cons_succ] at hq_); clear HH; have HH := hid hq_; clear hq_))
        | ((with_reducible apply wpL_allocC (dst := some 3) kZ34 HH.out); rfl; (intro g3_ w_ hq_; (try simp only [List.set_cons_zero, List.set_cons_succ] at hq_); clear HH; have HH := hid hq_; clear hq_))
        | ((with_reducible apply wpL_storeArr (t := 34) kS34 HH.out); rfl; rfl; (first | exact .here | exact .there .here | exact .there (.there .here) | exact .there (.there (.there .here)) | exact .there (.there (.there (.there .here))) | exact .there (.there (.there (.there (.there .here)))) | exact .there (.there (.there (.there (.there (.there .here))))) | exact .there (.there (.there (.there (.there (.there (.there .here))))))); (first | rfl | exact Arr.len _ | (simp; done)); rfl; (intro w_ hq_; (try simp only [List.set_cons_zero, List.set_cons_succ] at hq_); clear HH; have HH := hid hq_; clear hq_))
        | ((with_reducible apply wpL_storeC (t := 34)); rfl; rfl; (exact kS34); (exact HH.out); (first | exact .here | exact .there .here | exact .there (.there .here) | exact .there (.there (.there .here)) | exact .there (.there (.there (.there .here))) | exact .there (.there (.there (.there (.there .here)))) | exact .there (.there (.there (.there (.there (.there .here))))) | exact .there (.there (.there (.there (.there (.there (.there .here))))))); (first | rfl | exact Arr.len _ | (simp; done)); (first | rfl | (intro u_ hu_; simp only [List.mem_cons, List.not_mem_nil, or_false] at hu_; rcases hu_ with rfl | hu_; rfl) | exact byt_cell1 _ | exact cells_one _ | exact wrd_one _ | exact flat_cell1 _); (first | rfl | exact Arr.len _ | (simp; done)); rfl; (intro w_ hq_; (try simp only [List.set_cons_zero, List.set_cons_succ] at hq_); clear HH; have HH := hid hq_; clear hq_))
        | ((with_reducible apply wpL_move); rfl; rfl)
        | ((with_reducible apply wpL_assign); rfl; rfl)
        | ((with_reducible apply wpL_pick); rfl; rfl; rfl)
        | ((with_reducible apply wpL_not); rfl; rfl)
        | ((with_reducible apply wpL_cmp (b := true)); rfl; rfl; rfl; (first | rfl | assumption | (simp only [cmpB, decide_eq_true_eq, decide_eq_false_iff_not, beq_iff_eq, bne_iff_ne, ne_eq, beq_eq_false_iff_ne, bne_eq_false_iff_eq, gt_iff_lt, ge_iff_le]; omega) | (simp; omega)); rfl)
        | ((with_reducible apply wpL_cmp (b := false)); rfl; rfl; rfl; (first | rfl | assumption | (simp only [cmpB, decide_eq_true_eq, decide_eq_false_iff_not, beq_iff_eq, bne_iff_ne, ne_eq, beq_eq_false_iff_ne, bne_eq_false_iff_eq, gt_iff_lt, ge_iff_le]; omega) | (simp; omega)); rfl)
        | ((with_reducible apply wpL_cmp); rfl; rfl; rfl; rfl; rfl)
        | ((with_reducible apply wpL_arith); rfl; rfl; rfl; (exact IntWalk.i64_in _ (by (try simp only [arithI]); omega)); rfl)); (try simp only [arithI, Act.put, Act.eval, List.setIfInBounds_toArray, List.set_cons_succ, List.set_cons_zero, Array.getD_eq_getD_getElem?, List.getElem?_toArray, List.getElem?_cons_succ, List.getElem?_cons_zero, Option.getD_some])))
  go_ret
  exact RetB.mk rfl HH.out.dropRow.dropBlk.dropBlk.dropBlk.below
end Go.Proofs.Ytgkfopodhikckaa

/- Elements of an array that lies in a variable; the law MerkleNodes. Condition: at most 300 bytes. -/
namespace Go.Proofs.Ytgkfopodhikckaa
open Go.RowKit
attribute [local irreducible] wpQuiet wpList
section
variable {P : Program} {w0 w : World} {S : List Nat} {bs bs' : List (Nat × Obj)} {rows : List Row} {ops : Array Oper} {rest : List Oper} {a : Act} {Q : Exit → Act → World → Prop} {C : World → Prop} {K : Act → Prop} {ρ : Operand → Value} {dst : Option Tmp} {ty : TypeId} {pos : String} {after : Array Edge} {guard : Option (Nat × Bool)}
end
end Go.Proofs.Ytgkfopodhikckaa

/- From the walks of the merkle laws to their rows: lists of nodes, pairs of nodes, claims. No condition. -/
namespace Go.Proofs.Ytgkfopodhikckaa
open Go.ChangeShapes Go.WideShapes Go.ChangeAt Go.RowKit
theorem cells41 : Try.prog.cellsOf 41 = 16 := by kernel_rfl
section
variable {H : Type} {enc : TypeId × Value → H} {W : World} {base : Nat}
set_option maxRecDepth 100000 in
/-- An argument of type []N. -/
theorem open_nodes {v : Value} {d : DataW H} {p : List MemPlace} (hval : Value.okWide Try.prog W .any base 30 v)
    (h : DataW.Trod enc Try.prog W 0 (fun _ => true) true 30 v d p) : ∃ l : List Nd, Arrs W v l := by
  obtain ⟨fuel, hf⟩ := h
  obtain ⟨l, hl, _⟩ := open_arrs Try.underlying30 Try.underlying41 Try.underlying5 (by omega) cells41 cells5 (okWide_slice Try.underlying30 hval) hf
  exact ⟨l, hl⟩
end
end Go.Proofs.Ytgkfopodhikckaa

/- Arrays of nodes; Pairs of the reference. Condition: at most 10^9 nodes. -/
namespace Go.Proofs.Ytgkfopodhikckaa
open Go.RowKit
attribute [local irreducible] wpQuiet wpList
section
variable {P : Program}
end
section
variable {P : Program} {w0 w : World} {S : List Nat} {bs : List (Nat × Obj)} {rows : List Row} {ops : Array Oper} {rest : List Oper} {a : Act} {Q : Exit → Act → World → Prop} {K : Act → Prop} {dst : Option Tmp} {ty : TypeId} {pos : String} {after : Array Edge} {guard : Option (Nat × Bool)}
end
def RetPr (w : World) (ps : List (Arr 32)) (r : Nd) (c : Int) (e : Ending) (w' : World) : Prop :=
  ∃ ao cap, e = .returned (.tuple #[.slice ao ps.length cap, r.val, .int .i64 c]) ∧ w'.ownsRow w.heap.size 73 32 (.slice ao ps.length cap) ps.length (flat ps) ∧ Below w.heap.size w w'
theorem RetPr.no {w w' : World} {ps : List (Arr 32)} {r d : Nd} {b c : Int} (hp : ps = []) (hr : r = d) (h : b = c) (hb : Below w.heap.size w w') : RetPr w ps d c (.returned (.tuple #[.slice none 0 0, r.val, .int .i64 b])) w' := by
  subst hp hr h
  exact ⟨none, 0, rfl, World.ownsRow_nil _ _ _ _, hb⟩
section
variable {P : Program} {w0 w : World} {S : List Nat} {bs : List (Nat × Obj)} {rows : (Nat → Bool) → (Nat → Value) → List Row} {ia is_ sl : Nat} {e : TypeId} {zs vs : List Value} {l : Nat → Bool} {a : Act} {ty : TypeId} {pos : String} {after : Array Edge} {guard : Option (Nat × Bool)}
/-- A region's one new variable: laid by operation ia into slot sl, written by operation is_. -/
def AJ (w0 : World) (S : List Nat) (bs : List (Nat × Obj)) (rows : (Nat → Bool) → (Nat → Value) → List Row) (ia is_ sl : Nat) (e : TypeId) (zs vs : List Value) (l : Nat → Bool) (s : Nat → Value) (w : World) : Prop :=
  Holds w0 S (optB (l ia) (blkF (s sl), selO (l is_) (objC zs e) (objC vs e)) bs) (rows l s) w
end
end Go.Proofs.Ytgkfopodhikckaa

/- Every leaf is verified by its path, plainly. Condition: at most ten levels. -/
namespace Go.Proofs.Ytgkfopodhikckaa
open Go.RowKit
end Go.Proofs.Ytgkfopodhikckaa

/- The law MerkleVerify. Condition: at most 64 leaves, a path of at most 20 nodes. -/
namespace Go.Proofs.Ytgkfopodhikckaa
open Go.RowKit
attribute [local irreducible] wpQuiet wpList
section
variable {P : Program} {w0 w : World} {S : List Nat} {bs : List (Nat × Obj)} {ρ : Operand → Value} {dst : Option Tmp} {ty : TypeId} {pos : String} {after : Array Edge} {guard : Option (Nat × Bool)}
/-- A row that a call in the region makes. -/
def optR (b : Bool) (r : Row) (l : List Row) : List Row := match b with | true => r :: l | false => l
def rowsO (ir sr : Nat) (e : TypeId) (sz n : Nat) (xs : List Value) (base : List Row) : (Nat → Bool) → (Nat → Value) → List Row := fun l s => optR (l ir) ⟨s sr, e, sz, n, xs⟩ base
variable {rows : (Nat → Bool) → (Nat → Value) → List Row} {ia is_ sl : Nat} {e : TypeId} {zs vs : List Value} {l : Nat → Bool} {s : Nat → Value}
theorem AJ.grow {w' : World} (hJ : AJ w0 S bs rows ia is_ sl e zs vs l s w) (hb : Below w.heap.size w w') : AJ w0 S bs rows ia is_ sl e zs vs l s w' := Holds.grow hJ hb
theorem AJ.addRow {w' : World} {ir sr : Nat} {E : TypeId} {sz n : Nat} {xs : List Value} {base : List Row} {v : Value} (hJ : AJ w0 S bs (rowsO ir sr E sz n xs base) ia is_ sl e zs vs l s w) (hi : l ir = false) (h1 : ia ≠ ir) (h2 : is_ ≠ ir) (h3 : sl ≠ sr)
    (hb : Below w.heap.size w w') (hr : w'.ownsRow w.heap.size E sz v n xs) : AJ w0 S bs (rowsO ir sr E sz n xs base) ia is_ sl e zs vs (upd l ir) (updS s sr v) w' := by
  unfold AJ rowsO at *
  rw [hi] at hJ
  have h := Holds.addRow (show Holds w0 S _ base w from hJ) hb hr
  rw [show upd l ir ia = l ia by simp [upd, h1], show upd l ir is_ = l is_ by simp [upd, h2], show upd l ir ir = true by simp [upd], show updS s sr v sl = s sl by simp [updS, h3], show updS s sr v sr = v by simp [updS]]
  exact h
end
end Go.Proofs.Ytgkfopodhikckaa

/- A Builder of the call's own: NewBuilder, Add, Len, Pending, Root. Condition: fewer than 1024 leaves for Add. -/
namespace Go.Proofs.Ytgkfopodhikckaa
open Go.RowKit
attribute [local irreducible] wpQuiet wpList
theorem Own.mid (pre : List (Nat × Obj)) (g : Nat) (o : Obj) (post : List (Nat × Obj)) : Own (pre ++ (g, o) :: post) g o := by
  induction pre with
  | nil => exact .here
  | cons p l ih => exact .there ih
theorem Turn.mid (pre : List (Nat × Obj)) (g : Nat) (o o' : Obj) (post : List (Nat × Obj)) : Turn (pre ++ (g, o) :: post) g o o' (pre ++ (g, o') :: post) := by
  induction pre with
  | nil => exact .here
  | cons p l ih => exact .there ih
end Go.Proofs.Ytgkfopodhikckaa

/- Two arrays of nodes held against each other; the visits of Collision. No condition. -/
namespace Go.Proofs.Ytgkfopodhikckaa
open Go.RowKit
attribute [local irreducible] wpQuiet wpList
section
variable {P : Program} {w0 w : World} {S : List Nat} {bs bs' : List (Nat × Obj)} {rows : List Row} {ops : Array Oper} {rest : List Oper} {a : Act} {Q : Exit → Act → World → Prop} {C : World → Prop} {K : Act → Prop} {ρ : Operand → Value} {dst : Option Tmp} {ty : TypeId} {pos : String} {after : Array Edge} {guard : Option (Nat × Bool)}
end
section
variable {w0 w : World} {S : List Nat} {ops : Array Oper} {rest : List Oper} {a : Act} {C : World → Prop} {K : Act → Prop} {dst : Option Tmp} {ty yt : TypeId} {pos : String} {after : Array Edge} {guard : Option (Nat × Bool)} {x y : Operand} {p q : Arr 32} {b : Bool}
end
end Go.Proofs.Ytgkfopodhikckaa

/- Collision of merkle. Condition: at most 10^9 nodes. -/
namespace Go.Proofs.Ytgkfopodhikckaa
open Go.RowKit
attribute [local irreducible] wpQuiet wpList
section
variable {P : Program} {w0 w : World} {S : List Nat} {bs bs' PRE POST : List (Nat × Obj)} {rows : List Row} {ops : Array Oper} {rest : List Oper} {a : Act} {Q : Exit → Act → World → Prop} {ρ : Operand → Value} {dst : Option Tmp} {ty : TypeId} {pos : String} {after : Array Edge} {guard : Option (Nat × Bool)} {R : Value → World → Prop}
end
end Go.Proofs.Ytgkfopodhikckaa

/- Collision of merkle. Condition: at most 10^9 nodes. -/
namespace Go.Proofs.Ytgkfopodhikckaa
open Go.RowKit
attribute [local irreducible] wpQuiet wpList
def collOK (i : Int) (a : Nd) (pa : List Nd) (b : Nd) (pb : List Nd) : Prop := fromC i pa.length = 0 ∧ fromC i pb.length = 0 ∧ pa.length = pb.length ∧ fromV a i pa = fromV b i pb
instance (i : Int) (a : Nd) (pa : List Nd) (b : Nd) (pb : List Nd) : Decidable (collOK i a pa b pb) := by unfold collOK; infer_instance
end Go.Proofs.Ytgkfopodhikckaa

/- A changed leaf or path is rejected or yields a collision, plainly. Condition: at most ten levels. -/
namespace Go.Proofs.Ytgkfopodhikckaa
open Go.RowKit
end Go.Proofs.Ytgkfopodhikckaa

/- The law MerkleForged. Condition: at most 64 leaves, a path of at most 12 nodes. -/
namespace Go.Proofs.Ytgkfopodhikckaa
open Go.RowKit
attribute [local irreducible] wpQuiet wpList
end Go.Proofs.Ytgkfopodhikckaa

/- A range over a function: a round's regions out of the plain rules; yield's call; the statement. Over any program; no condition. -/
namespace Go.Proofs.Ytgkfopodhikckaa
open Go.RowKit
/-- The fence that lets everything by, in a round or in none. -/
@[reducible] def wideR (ro : Option Nat) : Fence := { fn := fun _ => True, depth := none, alive := false, round := ro }
section
variable {P : Program} {ops : Array Oper} {Q : Exit → Act → World → Prop} {ro : Option Nat} {n : Nat} {a : Act} {w : World}
theorem rowsIn_of {row : String} {args : Array Value} {R : Value → World → Prop} (h : Rows P row args w R) : RowsIn (wideR ro) n P row args w R :=
  fun c cs _ => let ⟨v, w', r, s⟩ := h c cs; ⟨v, w', r, (stepsIn_wide (P := P)).2 s⟩
theorem callsIn_of {f : FuncId} {args : Array Value} {R : Ending → World → Prop} (h : Calls P f args w R) : CallsIn (wideR ro) n P f args w R :=
  (callsIn_wide (n := n)).2 h
theorem calls_of_in {f : FuncId} {args : Array Value} {R : Ending → World → Prop} (h : CallsIn (wideR ro) n P f args w R) : Calls P f args w R :=
  (callsIn_wide (n := n)).1 h
/-- An operation that is no 'defer' is carried out in a round as anywhere. -/
theorem oper_in {o : Oper} {K : Act → World → Prop} (hnd : ∀ c, o.op ≠ .defer c) (h : o.wp P a w K Q) : o.wpIn (wideR ro) n P a w K Q := by
  refine ⟨fun _ _ => trivial, ?_⟩
  have e : o.semAt (wideR ro).round a.eval = execOp a.eval o := Oper.semAt_eq _ _ _ hnd
  rw [e]
  unfold Oper.wp at h
  generalize (execOp a.eval o).run P w = r at *
  cases r with
  | ok x w' =>
    cases x <;> simp only [Oper.upon, Oper.uponIn] at h ⊢ <;> first | exact h | exact ⟨fun hd => Bool.noConfusion hd, callsIn_of h⟩ | exact ⟨fun hd => Bool.noConfusion hd, rowsIn_of h⟩ | exact False.elim h
  | halt x w' => cases x <;> simp only [Oper.upon, Oper.uponIn] at h ⊢ <;> exact h
def noDefer (l : List Oper) : Bool := l.all fun o => match o.op with | .defer _ => false | _ => true
theorem noDefer_spec {l : List Oper} (h : noDefer l = true) : ∀ o ∈ l, ∀ c, o.op ≠ .defer c := by
  intro o ho c e
  have := List.all_eq_true.1 h o ho
  rw [e] at this
  exact absurd this (by simp)
/-- A list of operations in a round, out of the plain rules; behind it the rest. -/
theorem list_in (hlo : ¬ LetsOut Q) {rest : List Oper} : ∀ (pre : List Oper), (∀ o ∈ pre, ∀ c, o.op ≠ .defer c) → ∀ a w,
    wpList P ops (Exit.then (wpListIn (wideR ro) n P ops Q rest) Q) pre a w → wpListIn (wideR ro) n P ops Q (pre ++ rest) a w := by
  intro pre
  induction pre with
  | nil => intro _ a w h; exact h
  | cons o pre ih =>
    intro hnd a w h
    rw [List.cons_append]
    unfold wpList at h
    unfold wpListIn
    split
    · rename_i hw
      rw [if_pos hw] at h
      rcases h with h | ⟨_, h⟩
      · have h1 := oper_in (ro := ro) (n := n) (hnd o List.mem_cons_self) h
        have h2 := Oper.wpIn_mono (fun a w hk => ih (fun o ho => hnd o (List.mem_cons_of_mem _ ho)) a w hk) h1
        refine ⟨h2.1, ?_⟩
        have h3 := h2.2
        generalize (o.semAt (wideR ro).round a.eval).run P w = r at *
        cases r with
        | ok x w' => cases x <;> simp only [Oper.uponIn] at h3 ⊢ <;> exact h3
        | halt x w' => cases x <;> simp only [Oper.uponIn] at h3 ⊢ <;> exact h3
      · exact absurd h hlo
    · rename_i hw
      rw [if_neg hw] at h
      exact ⟨fun _ _ => trivial, ih (fun o ho => hnd o (List.mem_cons_of_mem _ ho)) _ _ h⟩
/-- A region in the order of the text, in a round. -/
theorem region_in {id : Nat} {l : List Oper} (hlo : ¬ LetsOut Q) (hnd : noDefer l = true) (h : wpList P l.toArray Q l a w) : (Code.region id l.toArray false).wpIn (wideR ro) n P Q a w := by
  refine wpIn_region_lit ?_
  have h1 := list_in (ro := ro) (n := n) (ops := l.toArray) (rest := []) hlo l (noDefer_spec hnd) a w (by
    have e : Exit.then (wpListIn (wideR ro) n P l.toArray Q []) Q = Q := by
      funext x; cases x <;> rfl
    rw [e]; exact h)
  rwa [List.append_nil] at h1
/-- A region whose last operations are walked in the fence. -/
theorem region_pre {id : Nat} {l : List Oper} (k : Nat) (hlo : ¬ LetsOut Q) (hnd : noDefer (l.take k) = true)
    (h : wpList P l.toArray (Exit.then (wpListIn (wideR none) n P l.toArray Q (l.drop k)) Q) (l.take k) a w) : (Code.region id l.toArray false).wp P Q a w := by
  have hw := fun h => (wpIn_wide (n := n) (P := P) (c := Code.region id l.toArray false) (Q := Q) (a := a) (w := w)).1 (wpIn_region_lit h)
  refine hw ?_
  have h1 := list_in (ro := none) (n := n) (ops := l.toArray) (rest := l.drop k) hlo (l.take k) (noDefer_spec hnd) a w h
  rwa [List.take_append_drop] at h1
/-- The rest of a list, out of the plain rules. -/
theorem rest_in {l : List Oper} (hlo : ¬ LetsOut Q) (hnd : noDefer l = true) (h : wpList P ops Q l a w) : wpListIn (wideR ro) n P ops Q l a w := by
  have h1 := list_in (ro := ro) (n := n) (ops := ops) (rest := []) hlo l (noDefer_spec hnd) a w (by
    have e : Exit.then (wpListIn (wideR ro) n P ops Q []) Q = Q := by
      funext x; cases x <;> rfl
    rw [e]; exact h)
  rwa [List.append_nil] at h1
/-- A call of yield. -/
theorem list_yield {dst : Option Tmp} {ty : TypeId} {pos : String} {after : Array Edge} {f x y : Operand} {ts : Array TypeId} {rest : List Oper} {lp : Nat} {args : Array Value} {R : Ending → World → Prop}
    (hf : a.eval f = .func (.yield lp) #[] #[]) (hx : #[a.eval x, a.eval y] = args) (hy : YieldAt (wideR none) (n - 1) P lp args w R)
    (h : ∀ e w', R e w' → ∃ v, e = .returned v ∧ wpListIn (wideR none) n P ops Q rest (a.put dst v) w') :
    wpListIn (wideR none) n P ops Q ({ dst := dst, op := .call { callee := .value f, args := #[x, y], argTypes := ts }, type := ty, pos := pos, after := after, guard := none } :: rest) a w := by
  obtain ⟨fn, tmps, assign, body, hy, hR⟩ := hy
  subst hx
  refine wpListIn_plain rfl fun K hK => ?_
  refine ⟨fun _ _ => trivial, ?_⟩
  have hrun : (execOp a.eval { dst := dst, op := .call { callee := .value f, args := #[x, y], argTypes := ts }, type := ty, pos := pos, after := after, guard := none }).run P w = .ok (.round lp fn tmps assign body) w := by
    simp only [execOp, resolve, hf, Deferred.ofValue, Sem.run_bind, Sem.run_pure, Result.andThen_ok, invoke]
    simpa using hy
  rw [Oper.semAt_none, hrun]
  refine ⟨fun hd => (by cases hd), hR.mono ?_⟩
  intro e w' hr
  obtain ⟨v, rfl, hw⟩ := h e w' hr
  exact hK _ _ hw
/-- The record of a range over a function. -/
@[reducible] def recF (fn : FuncId) (tmps : Array Value) (ps : Array Tmp) (assign body : Code) (D : Nat) (st : LoopState) (pe : Option Code) : Loop := { state := st, pending := pe, fn, tmps, params := ps, assign, body, defers := D }
/-- The statement: the two blocks are laid, the function is called with yield; behind it the pending jump. -/
theorem wp_rangeF {g : Operand} {ps : Array Tmp} {assign body : Code} {gf : Nat} {lb : Array Value} (hg : a.eval g = .func (.func gf) #[] lb) (hgf : Body P gf)
    (h : ∀ fn rc, RowKit.Hid (rc = fun st pe => recF fn a.tmps ps assign body w.heap.size st pe) → Calls P gf (#[.func (.yield (w.heap.size + 1)) #[] #[]] ++ lb) ((w.alloc (.deferred (some []))).alloc (.loop (rc .ready none)))
      (rangePost (wideR none) 0 P (w.heap.size + 1) Q { a with defers := { target := .collected w.heap.size, args := #[] } :: a.defers })) :
    (Code.rangeFunc g ps assign body).wp P Q a w := by
  have key : (Code.rangeFunc g ps assign body).wpIn (wideR none) 0 P Q a w := by
    refine wpIn_rangeFunc (F := wideR none) ?_
    intro fn _
    have hC : CallsIn (wideR none) (0 - 1) P gf (#[.func (.yield (w.heap.size + 1)) #[] #[]] ++ lb) ((w.alloc (.deferred (some []))).alloc (.loop (recF fn a.tmps ps assign body w.heap.size .ready none)))
      (rangePost (wideR none) 0 P (w.heap.size + 1) Q { a with defers := [{ target := .collected w.heap.size, args := #[] }] ++ a.defers }) := callsIn_of (ro := none) (h fn _ (hid rfl))
    have hE := run_enterLoop_outer (P := P) (w := w) fn a.tmps ps assign body
    have hR : (resolve a.eval (rangeCall g (w.heap.size + 1)) 0).run P ((w.alloc (.deferred (some []))).alloc (.loop (recF fn a.tmps ps assign body w.heap.size .ready none))) = .ok { target := .fn (.func gf) lb, args := #[.func (.yield (w.heap.size + 1)) #[] #[]] } ((w.alloc (.deferred (some []))).alloc (.loop (recF fn a.tmps ps assign body w.heap.size .ready none))) := by
      simp only [resolve, hg, Deferred.ofValue, Sem.run_pure]
      simp [Act.eval]
    have hI : (invoke (.fn (.func gf) lb) #[.func (.yield (w.heap.size + 1)) #[] #[]]).run P ((w.alloc (.deferred (some []))).alloc (.loop (recF fn a.tmps ps assign body w.heap.size .ready none))) = .ok (.enter gf (#[.func (.yield (w.heap.size + 1)) #[] #[]] ++ lb)) ((w.alloc (.deferred (some []))).alloc (.loop (recF fn a.tmps ps assign body w.heap.size .ready none))) := by
      obtain ⟨f, c, h1, h2, h3⟩ := hgf
      have h3' : ¬ f.name = "runtime.NumGoroutine" := by simpa using h3
      simp [invoke, callFunc, h1, h2, h3']
    exact ⟨_, _, _, _, _, _, _, _, hE, hR, fun _ _ => trivial, hI, fun hd => Bool.noConfusion hd, hC⟩
  exact (wpIn_wide (n := 0)).1 key
/-- How a round's body is left. -/
def endsRound (l : Nat) (rc : LoopState → Option Code → Loop) (R : Ending → World → Prop) : Exit → Act → World → Prop := fun e _ W => W.heap[l]? = some (.loop (rc .busy none)) ∧ match e with
  | .normal => R (.returned (.bool true)) (W.putObj l (.loop (rc .ready none)))
  | .ret => R (.returned (.bool false)) (W.putObj l (.loop (rc .done (some .ret))))
  | .exit id => R (.returned (.bool false)) (W.putObj l (.loop (rc .done (some (.exit id)))))
  | .goto t => R (.returned (.bool false)) (W.putObj l (.loop (rc .done (some (.goto t)))))
  | _ => False
/-- How the assignments to the loop's left sides are left. -/
def begunRound (P : Program) (l : Nat) (rc : LoopState → Option Code → Loop) (body : Code) (R : Ending → World → Prop) : Exit → Act → World → Prop :=
  Exit.then (fun a1 W1 => W1.heap[l]? = some (.loop (rc .ready none)) ∧ body.wpIn (wideR (some l)) 0 P (endsRound l rc R) a1 (W1.putObj l (.loop (rc .busy none)))) (fun _ _ _ => False)
/-- One round, from the record that is ready to the record behind it. -/
theorem yield_at {l D fn : Nat} {tmps : Array Value} {ps : Array Tmp} {assign body : Code} {args : Array Value} {R : Ending → World → Prop} {rc : LoopState → Option Code → Loop} (hrc : RowKit.Hid (rc = fun st pe => recF fn tmps ps assign body D st pe))
    (hl : w.heap[l]? = some (.loop (rc .ready none))) (hs : args.size = ps.size)
    (h : assign.wpIn (wideR (some l)) 0 P (begunRound P l rc body R) { tmps := (ps.zip args).foldl (fun t (p, v) => t.setIfInBounds p v) tmps, defers := [] } w) :
    YieldAt (wideR none) 0 P l args w R := by
  have hrc := hrc.out
  subst hrc
  refine ⟨fn, _, assign, body, run_yield hl hs, roundIn_of_wpIn trivial (wpIn_mono h ?_)⟩
  intro e a1 W1 he
  cases e <;> first | exact he.elim | skip
  obtain ⟨hl1, hb⟩ := he
  refine ⟨_, run_beginRound hl1 rfl, wpIn_mono hb ?_⟩
  rintro e a3 W ⟨hb, h3⟩
  have fin := fun jump => run_endRound (P := P) jump hb
  cases e with
  | normal => exact ⟨_, _, fin none, h3⟩
  | ret => exact ⟨_, _, fin (some .ret), h3⟩
  | exit id => exact ⟨_, _, fin (some (.exit id)), h3⟩
  | goto t => exact ⟨_, _, fin (some (.goto t)), h3⟩
  | panic ch => exact h3.elim
  | outgrown => exact h3.elim
theorem begun {l : Nat} {rc : LoopState → Option Code → Loop} {body : Code} {R : Ending → World → Prop} {a1 : Act} {W1 : World} (h1 : W1.heap[l]? = some (.loop (rc .ready none))) (h2 : body.wpIn (wideR (some l)) 0 P (endsRound l rc R) a1 (W1.putObj l (.loop (rc .busy none)))) : begunRound P l rc body R .normal a1 W1 := ⟨h1, h2⟩
theorem ends_normal {l : Nat} {rc : LoopState → Option Code → Loop} {R : Ending → World → Prop} {W : World} (h : W.heap[l]? = some (.loop (rc .busy none))) (hr : R (.returned (.bool true)) (W.putObj l (.loop (rc .ready none)))) : endsRound l rc R .normal a W := ⟨h, hr⟩
theorem ends_exit {l id : Nat} {rc : LoopState → Option Code → Loop} {R : Ending → World → Prop} {W : World} (h : W.heap[l]? = some (.loop (rc .busy none))) (hr : R (.returned (.bool false)) (W.putObj l (.loop (rc .done (some (.exit id)))))) : endsRound l rc R (.exit id) a W := ⟨h, hr⟩
theorem behind_none {l : Nat} {v : Value} {w' : World} (h : (Instr.endLoop l).run P w = .ok none w') (hq : Q .normal a w') : rangePost (wideR none) 0 P l Q a (.returned v) w := ⟨none, _, h, hq⟩
theorem behind_exit {l id : Nat} {v : Value} {w' : World} (h : (Instr.endLoop l).run P w = .ok (some (.exit id)) w') (hq : Q (.exit id) a w') : rangePost (wideR none) 0 P l Q a (.returned v) w := ⟨_, _, h, wpIn_exit hq⟩
/-- yield's two arguments in the round's frame. -/
theorem yield_at2 {l D fn : Nat} {tmps : Array Value} {p q : Tmp} {x y : Value} {assign body : Code} {R : Ending → World → Prop} {rc : LoopState → Option Code → Loop} (hrc : RowKit.Hid (rc = fun st pe => recF fn tmps #[p, q] assign body D st pe))
    (hl : w.heap[l]? = some (.loop (rc .ready none)))
    (h : assign.wpIn (wideR (some l)) 0 P (begunRound P l rc body R) { tmps := (tmps.setIfInBounds p x).setIfInBounds q y, defers := [] } w) :
    YieldAt (wideR none) 0 P l #[x, y] w R := by
  refine yield_at hrc hl rfl ?_
  have e : ((#[p, q] : Array Tmp).zip #[x, y]).foldl (fun t (p, v) => t.setIfInBounds p v) tmps = (tmps.setIfInBounds p x).setIfInBounds q y := by
    rw [← Array.foldl_toList, Array.toList_zip]; rfl
  rw [e]
  exact h
theorem end_loop {l D fn : Nat} {tmps : Array Value} {ps : Array Tmp} {assign body : Code} {rc : LoopState → Option Code → Loop} (hrc : RowKit.Hid (rc = fun st pe => recF fn tmps ps assign body D st pe)) {st : LoopState} {pe : Option Code}
    (h : w.heap[l]? = some (.loop (rc st pe))) (hb : st ≠ .busy) : (Instr.endLoop l).run P w = .ok pe (w.putObj l (.loop (rc .exhausted pe))) := by
  have hrc := hrc.out
  subst hrc
  exact run_endLoop h hb
/-- Leaving a function before the loop, and behind it. -/
theorem leave0 {F : Fence} {fn : Func} {R : Ending → World → Prop} {v : Value} (hr : (results fn a.tmps).run P w = .ok v w) (hd : a.defers = []) (hR : R (.returned v) w) : bodyPostM F n P fn R .ret a w := by
  simp only [bodyPostM, hd, LeavesInM, LeavesIn]
  exact ⟨v, hr, hR⟩
theorem leave1 {F : Fence} {fn : Func} {R : Ending → World → Prop} {v : Value} {D : Nat} {w' : World} (hD : w.heap[D]? = some (.deferred (some []))) (hw : w.putObj D (.deferred none) = w')
    (hr : (results fn a.tmps).run P w' = .ok v w') (hd : a.defers = [{ target := .collected D, args := #[] }]) (hR : R (.returned v) w') : bodyPostM F n P fn R .ret a w := by
  subst hw
  simp only [bodyPostM, hd, LeavesInM, LeavesIn]
  exact ⟨by simp, .inl ⟨_, _, rfl, run_takeDeferred hD, v, hr, hR⟩⟩
theorem calls_of_marks {f : FuncId} {fn : Func} {c : Code} {args : Array Value} {R : Ending → World → Prop} (hf : P.funcs[f]? = some fn) (hb : fn.body = some c)
    (h : c.wp P (bodyPostM (wideR none) 0 P fn R) { tmps := args ++ Array.replicate (fn.ntmps - args.size) undef, defers := [] } w) : Calls P f args w R :=
  calls_of_in (n := 0) (callsIn_of_wp_marks (F := wideR none) hf hb trivial ((wpIn_wide (n := 0)).2 h))
end
end Go.Proofs.Ytgkfopodhikckaa

/- What a round may turn: the caller's own memory, named by where the iterator's call began. Over any program; no condition. -/
namespace Go.Proofs.Ytgkfopodhikckaa
open Go.RowKit
section
variable {w w0 w1 W W' : World} {S : List Nat} {bs bs' : List (Nat × Obj)} {rows rows' R : List Row}
/-- From W to W' no block at or beyond T has turned. -/
def Keeps (T : Nat) (W W' : World) : Prop := Holds W (List.range T) [] [] W'
theorem ownsRow_keep {base : Nat} {e : TypeId} {sz n : Nat} {v : Value} {xs : List Value} (h : W.ownsRow base e sz v n xs) (hk : ∀ g, v.ownBlock = some g → W'.heap[g]? = W.heap[g]?) : W'.ownsRow base e sz v n xs := by
  refine ⟨h.1, ?_⟩
  rcases h.2 with hn | ⟨g, cap, cur, hv, hg, hh, rest⟩
  · exact .inl hn
  · exact .inr ⟨g, cap, cur, hv, hg, (hk g (by rw [hv]; rfl)).trans hh, rest⟩
theorem ownsRow_base {b b' : Nat} (hb : b' ≤ b) {e : TypeId} {sz n : Nat} {v : Value} {xs : List Value} (h : W.ownsRow b e sz v n xs) : W.ownsRow b' e sz v n xs := by
  refine ⟨h.1, ?_⟩
  rcases h.2 with hn | ⟨g, cap, cur, hv, hg, rest⟩
  · exact .inl hn
  · exact .inr ⟨g, cap, cur, hv, Nat.le_trans hb hg, rest⟩
/-- The iterator's side: its own rows lie as they lay behind a round. -/
theorem Holds.kept (h : Holds w (List.range w.heap.size) [] rows W) (hk : Keeps w.heap.size W W') : Holds w (List.range w.heap.size) [] rows W' := by
  refine ⟨hk.os.trans h.os, hk.tape.trans h.tape, hk.output.trans h.output, Nat.le_trans h.size hk.size, ?_, by simp, by simp, ?_, h.sep, h.inS⟩
  · intro k hk' hn
    exact absurd (List.mem_range.2 hk') hn
  · intro r hr
    refine ownsRow_keep (h.row r hr) fun g hg => ?_
    have := h.rowlt hr g hg
    exact hk.old g this.2 (fun hm => by have := List.mem_range.1 hm; omega)
theorem Holds.init2 (w : World) : Holds w (List.range w.heap.size) [] [] w := ⟨rfl, rfl, rfl, Nat.le_refl _, fun _ _ _ => rfl, by simp, by simp, by simp, by simp, fun k hk => List.mem_range.1 hk⟩
/-- A callee's rows join the call's own. -/
theorem Holds.join (h : Holds w0 S bs rows W) (h' : Holds W [] [] R W') : Holds w0 S bs (R ++ rows) W' := by
  have hg := h.grow h'.below
  refine ⟨hg.os, hg.tape, hg.output, hg.size, hg.old, hg.blk, hg.frs, ?_, ?_, h.inS⟩
  · intro r hr
    rcases List.mem_append.1 hr with hr | hr
    · exact ownsRow_base h.size (h'.row r hr)
    · exact hg.row r hr
  · have h1 := h.sep
    have h2 := h'.sep
    simp only [List.map_nil, List.nil_append] at h2
    rw [List.nodup_append] at h1
    rw [List.filterMap_append, List.nodup_append]
    refine ⟨h1.1, List.nodup_append.2 ⟨h2, h1.2.1, ?_⟩, ?_⟩
    · intro a ha b hb e
      subst e
      obtain ⟨r, hr, e1⟩ := List.mem_filterMap.1 ha
      obtain ⟨q, hq, e2⟩ := List.mem_filterMap.1 hb
      have := (h'.rowlt hr _ e1).1
      have := (h.rowlt hq _ e2).2
      omega
    · intro a ha b hb e
      subst e
      obtain ⟨p, hp, rfl⟩ := List.mem_map.1 ha
      have h3 := h.lt hp
      rcases List.mem_append.1 hb with hb | hb
      · obtain ⟨r, hr, e1⟩ := List.mem_filterMap.1 hb
        have := (h'.rowlt hr _ e1).1
        omega
      · exact h1.2.2 _ ha _ hb rfl
/-- The caller's side: whatever lies at or beyond T is held as it lies; so a round that holds it keeps it. -/
theorem Holds.addAll (T : Nat) (h : Holds w0 [] bs rows W) (h0 : w0.heap.size ≤ T) (hT : T ≤ W.heap.size) (hb : ∀ p ∈ bs, p.1 < T) (hr : ∀ r ∈ rows, ∀ k, r.v.ownBlock = some k → k < T) :
    ∃ X, Holds w0 [] (bs ++ X) rows W ∧ ∀ bs' rows' W', Holds w0 [] (bs' ++ X) rows' W' → T ≤ W'.heap.size → Keeps T W W' := by
  obtain ⟨X, hX⟩ : ∃ X, (List.range' T (W.heap.size - T)).map (fun k => (k, (W.heap[k]?).getD (.deferred none))) = X := ⟨_, rfl⟩
  have hXm : ∀ p ∈ X, T ≤ p.1 ∧ p.1 < W.heap.size ∧ W.heap[p.1]? = some p.2 := by
    intro p hp
    rw [← hX] at hp
    obtain ⟨k, hk, rfl⟩ := List.mem_map.1 hp
    have hk' := List.mem_range'_1.1 hk
    have hlt : k < W.heap.size := by omega
    exact ⟨hk'.1, hlt, by simp [hlt]⟩
  have hXi : ∀ k, T ≤ k → k < W.heap.size → ∃ o, (k, o) ∈ X ∧ W.heap[k]? = some o := by
    intro k h1 h2
    refine ⟨_, ?_, by simp [h2]; rfl⟩
    rw [← hX]
    exact List.mem_map.2 ⟨k, List.mem_range'_1.2 ⟨h1, by omega⟩, by simp [h2]⟩
  have hXn : (X.map (·.1)).Nodup := by
    rw [← hX, List.map_map]
    have : ((fun p : Nat × Obj => p.1) ∘ fun k => (k, (W.heap[k]?).getD (.deferred none))) = id := rfl
    rw [this, List.map_id]
    exact List.nodup_range'
  refine ⟨X, ⟨h.os, h.tape, h.output, h.size, h.old, ?_, ?_, h.row, ?_, h.inS⟩, ?_⟩
  · intro p hp
    rcases List.mem_append.1 hp with hp | hp
    · exact h.blk p hp
    · exact (hXm p hp).2.2
  · intro p hp
    rcases List.mem_append.1 hp with hp | hp
    · exact h.frs p hp
    · exact .inl (Nat.le_trans h0 (hXm p hp).1)
  · have hsep := h.sep
    rw [List.nodup_append] at hsep
    rw [List.map_append, List.append_assoc, List.nodup_append]
    refine ⟨hsep.1, List.nodup_append.2 ⟨hXn, hsep.2.1, ?_⟩, ?_⟩
    · intro a ha b hb' e
      subst e
      obtain ⟨p, hp, rfl⟩ := List.mem_map.1 ha
      obtain ⟨r, hr', e⟩ := List.mem_filterMap.1 hb'
      have h1 := hr r hr' _ e
      have h2 := (hXm p hp).1
      omega
    · intro a ha b hb' e
      subst e
      obtain ⟨q, hq, hqe⟩ := List.mem_map.1 ha
      have h1 := hb q hq
      rcases List.mem_append.1 hb' with hb' | hb'
      · obtain ⟨p, hp, hpe⟩ := List.mem_map.1 hb'
        have h2 := (hXm p hp).1
        omega
      · exact hsep.2.2 a ha a hb' rfl
  · intro bs' rows' W' h' hT'
    have hsame : ∀ k, T ≤ k → k < W.heap.size → W'.heap[k]? = W.heap[k]? := by
      intro k h1 h2
      obtain ⟨o, hm, ho⟩ := hXi k h1 h2
      rw [ho]
      exact h'.blk _ (List.mem_append_right _ hm)
    refine ⟨h'.os.trans h.os.symm, h'.tape.trans h.tape.symm, h'.output.trans h.output.symm, ?_, ?_, by simp, by simp, by simp, by simp, fun k hk => Nat.lt_of_lt_of_le (List.mem_range.1 hk) hT⟩
    · by_cases hlt : T < W.heap.size
      · have h1 := hsame (W.heap.size - 1) (by omega) (by omega)
        obtain ⟨o, _, ho⟩ := hXi (W.heap.size - 1) (by omega) (by omega)
        rw [ho] at h1
        have := (Array.getElem?_eq_some_iff.1 h1).1
        omega
      · omega
    · intro k hk hn
      exact hsame k (by
        by_cases hkT : k < T
        · exact absurd (List.mem_range.2 hkT) hn
        · omega) hk
/-- A block of the call's own that is no cells turns. -/
theorem Holds.put {g : Nat} {o o' : Obj} (h : Holds w0 S bs rows W) (ht : Turn bs g o o' bs') : Holds w0 S bs' rows (W.putObj g o') := by
  have hlt : g < W.heap.size := by
    have : (g, o) ∈ bs := by
      clear h
      induction ht with
      | here => exact List.mem_cons_self
      | there _ ih => exact List.mem_cons_of_mem _ ih
    exact h.lt this
  exact h.turn ht (World.putObj_heap_same hlt) rfl rfl rfl (by simp [World.putObj]) (fun k _ hk => World.putObj_heap_other hk)
theorem Holds.dropEnd {X : List (Nat × Obj)} (h : Holds w0 S (bs ++ X) rows W) : Holds w0 S bs rows W := by
  refine ⟨h.os, h.tape, h.output, h.size, h.old, fun p hp => h.blk p (List.mem_append_left _ hp), fun p hp => h.frs p (List.mem_append_left _ hp), h.row, ?_, h.inS⟩
  have h1 := h.sep
  rw [List.map_append, List.append_assoc, List.nodup_append] at h1
  rw [List.nodup_append]
  refine ⟨h1.1, (List.nodup_append.1 h1.2.1).2.1, fun a ha b hb => h1.2.2 a ha b (List.mem_append_right _ hb)⟩
/-- What is read lies as it lay where a record turns. -/
theorem Sl.putLoop {v : Value} {sz n : Nat} {cs : List Value} (h : Sl W v sz n cs) {L : Nat} {r r' : Loop} (hl : W.heap[L]? = Option.some (.loop r)) : Sl (W.putObj L (.loop r')) v sz n cs := by
  obtain ⟨ao, cap, rfl, hle, hlen, hc⟩ := h
  refine ⟨ao, cap, rfl, hle, hlen, fun j u hu => ?_⟩
  obtain ⟨a, ha, hcell⟩ := hc j u hu
  refine ⟨a, ha, (World.cell?_of_block (World.putObj_heap_other ?_)).trans hcell⟩
  intro e
  rw [World.cell?, e, hl] at hcell
  cases hcell
end
end Go.Proofs.Ytgkfopodhikckaa

namespace Go.Proofs.Ytgkfopodhikckaa
open Go.RowKit
attribute [local irreducible] wpQuiet wpList
/-- The levels, as rows of the caller's. -/
def RetLvO (w : World) (l : List Nd) (h : Nat) (e : Ending) (w' : World) : Prop :=
  ∃ vs rs ao cap, e = .returned (.slice ao (h + 1) cap) ∧ LvRows l (h + 1) vs rs ∧ Holds w [] [] (⟨.slice ao (h + 1) cap, 46, 1, h + 1, vs⟩ :: rs) w'
theorem RetLvO.of {w w' : World} {l : List Nd} {h : Nat} {vs : List Value} {rs : List Row} {ao : Option Addr} {cap : Nat} (H : LvRows l (h + 1) vs rs) (hH : Holds w [] [] (⟨.slice ao (h + 1) cap, 46, 1, h + 1, vs⟩ :: rs) w') : RetLvO w l h (.returned (.slice ao (h + 1) cap)) w' :=
  ⟨vs, rs, ao, cap, rfl, H, hH⟩
set_option maxRecDepth 100000 in
set_option maxHeartbeats 4000000 in
theorem levelsO_any (w : World) (v : Value) (l : List Nd) (h : Nat) (hl : Arrs w v l) (hh : h ≤ 10) (hn : l.length = 2 ^ h) : Calls Try.prog 68 #[v] w (RetLvO w l h) := by
  obtain ⟨ao, cap, rfl, _⟩ := hl.shape
  have HL := hid hl
  have hp10 : 2 ^ h ≤ 1024 := Nat.le_trans (Nat.pow_le_pow_right (by decide) hh) (by decide)
  have HN := hid hn
  have HCL := hid (show l.length ≤ 1000000000 by omega)
  clear hl hn
  have HH := hid (Holds.init w)
  go_enter Try.func68, Try.ntmps68
  go_wp2_with (first
    | ((first
        | ((with_reducible apply wpL_skip); rfl; skip)
        | (go_at_call 82; (with_reducible refine (cloneN_any _ _ l (HH.out.sl HL.out) HCL.out).mono ?_); rintro e_ w2_ ⟨ao0, cap0, rfl, hr_, hb_⟩; (have hq_ := HH.out.addRow hb_ hr_); clear HH; have HH := hid hq_; clear hq_ hr_ hb_)
        | ((with_reducible apply wpL_buildV1 (.slice ao0 l.length cap0) rfl); rfl; (exact HH.out); rfl; (intro g_ w_ hq_; clear HH; have HH := hid hq_; clear hq_))
        | ((with_reducible apply wpL_nilCheck); rfl; rfl)
        | ((with_reducible apply wpL_loadArr (t := 34) kA34 HH.out); rfl; (first | exact .here | exact .there .here | exact .there (.there .here) | exact .there (.there (.there .here)) | exact .there (.there (.there (.there .here))) | exact .there (.there (.there (.there (.there .here)))) | exact .there (.there (.there (.there (.there (.there .here))))) | exact .there (.there (.there (.there (.there (.there (.there .here))))))); rfl)
        | ((with_reducible apply wpL_loadC (t := 34) kA34 HH.out); rfl; (first | exact .here | exact .there .here | exact .there (.there .here) | exact .there (.there (.there .here)) | exact .there (.there (.there (.there .here))) | exact .there (.there (.there (.there (.there .here)))) | exact .there (.there (.there (.there (.there (.there .here))))) | exact .there (.there (.there (.there (.there (.there (.there .here))))))); (first | rfl | exact Arr.len _ | (simp; done)); rfl)
        | ((with_reducible apply wpL_load1 (t := 46) kO46 HH.out); rfl; (first | exact .here | exact .there .here | exact .there (.there .here) | exact .there (.there (.there .here)) | exact .there (.there (.there (.there .here))) | exact .there (.there (.there (.there (.there .here)))) | exact .there (.there (.there (.there (.there (.there .here))))) | exact .there (.there (.there (.there (.there (.there (.there .here))))))); rfl; rfl)
        | ((with_reducible apply wpL_len (t := 46) Try.underlying46); rfl; rfl)
        | ((with_reducible apply wpL_len (t := 125) Try.underlying125); rfl; rfl)
        | ((with_reducible apply wpL_move); rfl; rfl)
        | ((with_reducible apply wpL_assign); rfl; rfl)
        | ((with_reducible apply wpL_pick); rfl; rfl; rfl)
        | ((with_reducible apply wpL_not); rfl; rfl)
        | ((with_reducible apply wpL_cmp (b := true)); rfl; rfl; rfl; (first | rfl | assumption | (simp only [cmpB, decide_eq_true_eq, decide_eq_false_iff_not, beq_iff_eq, bne_iff_ne, ne_eq, beq_eq_false_iff_ne, bne_eq_false_iff_eq, gt_iff_lt, ge_iff_le]; omega) | (simp; omega)); rfl)
        | ((with_reducible apply wpL_cmp (b := false)); rfl; rfl; rfl; (first | rfl | assumption | (simp only [cmpB, decide_eq_true_eq, decide_eq_false_iff_not, beq_iff_eq, bne_iff_ne, ne_eq, beq_eq_false_iff_ne, bne_eq_false_iff_eq, gt_iff_lt, ge_iff_le]; omega) | (simp; omega)); rfl)
        | ((with_reducible apply wpL_cmp); rfl; rfl; rfl; rfl; rfl)
        | ((with_reducible apply wpL_arith); rfl; rfl; rfl; (exact IntWalk.i64_in _ (by (try simp only [arithI]); omega)); rfl)); (try simp only [arithI, Act.put, Act.eval, List.setIfInBounds_toArray, List.set_cons_succ, List.set_cons_zero, Array.getD_eq_getD_getElem?, List.getElem?_toArray, List.getElem?_cons_succ, List.getElem?_cons_zero, Option.getD_some])))
  go_loopw [3, 4] (LvRel1 w l h) (fun _ i _ => h + 1 - (intOf i).toNat)
  case atStart =>
    refine ⟨0, [.slice ao0 l.length cap0], [rowA 34 ao0 cap0 l], _, _, Nat.zero_le _, rfl, rfl, ⟨rfl, ?_, ?_⟩, HH.out⟩
    · intro u hu; simp at hu; subst hu; rfl
    · intro i hi
      obtain rfl : i = 0 := by omega
      exact ⟨ao0, cap0, rfl, List.mem_cons_self⟩
  case round =>
    obtain ⟨k, vs, rs, ao1, cap1, hk, rfl, rfl, hlv, hr⟩ := hrel
    clear HH
    have HH := hid hr
    have HLV := hid hlv
    have HLN := hid (levAt_len HN.out k hk)
    obtain ⟨aob, capb, hvk, hmem⟩ := hlv.2.2 k (by omega)
    have HVK := hid hvk
    have HMEM := hid hmem
    obtain ⟨b, hb⟩ : ∃ b, levAt l k = b := ⟨_, rfl⟩
    have HB := hid hb
    rw [hb] at HLN HVK HMEM
    obtain ⟨n, hbn⟩ : ∃ n, b.length = n := ⟨_, rfl⟩
    have HBN := hid hbn
    rw [hbn] at HLN HVK
    have hnb : n ≤ 1024 := by
      have := HLN.out
      rw [this]
      exact Nat.le_trans (Nat.pow_le_pow_right (by decide) (show h - k ≤ 10 by omega)) (by decide)
    clear hr hlv hvk hmem hb hbn
    have hn1 : 1 ≤ n := by rw [HLN.out]; exact Nat.two_pow_pos _
    obtain ⟨ad, c', e⟩ := (show Sl wr (.slice aob b.length capb) 16 b.length (flat b) from HH.out.slrow (List.mem_cons_of_mem _ HMEM.out)).some (by rw [HBN.out]; omega)
    simp only [Value.slice.injEq] at e
    obtain ⟨rfl, -, -⟩ := e
    obtain ⟨adv, cv, e⟩ := HH.out.sl0.some (by omega)
    simp only [Value.slice.injEq] at e
    obtain ⟨rfl, -, -⟩ := e
    by_cases hkh : k < h
    · obtain ⟨q, hq⟩ : ∃ q, 2 ^ (h - k - 1) = q := ⟨_, rfl⟩
      have hnq : n = 2 * q := by rw [HLN.out, ← hq, show h - k = (h - k - 1) + 1 by omega, Nat.pow_succ, Nat.add_sub_cancel]; omega
      have hq1 : 1 ≤ q := by rw [← hq]; exact Nat.two_pow_pos _
      have HUL := hid (show (upL (k + 1) b).length = q from upL_len _ _ _ (by rw [HBN.out]; exact hnq))
      clear hq
      go_wp2_with (first
        | ((first
            | ((with_reducible apply wpL_skip); rfl; skip)
            | ((with_reducible apply wpL_idxB (j := k) kE125); rfl; rfl; (exact (by omega)); (exact (by omega)); rfl)
            | ((with_reducible apply wpL_loadAt (t := 46) (v := .slice (some ad) n capb) kO46); (have hc_ := HH.out.sl0.cell k (.slice (some ad) n capb) HVK.out; exact hc_); rfl; rfl)
            | ((with_reducible apply wpL_nilCheck); rfl; rfl)
            | ((with_reducible apply wpL_loadArr (t := 34) kA34 HH.out); rfl; (first | exact .here | exact .there .here | exact .there (.there .here) | exact .there (.there (.there .here)) | exact .there (.there (.there (.there .here))) | exact .there (.there (.there (.there (.there .here)))) | exact .there (.there (.there (.there (.there (.there .here))))) | exact .there (.there (.there (.there (.there (.there (.there .here))))))); rfl)
            | ((with_reducible apply wpL_loadC (t := 34) kA34 HH.out); rfl; (first | exact .here | exact .there .here | exact .there (.there .here) | exact .there (.there (.there .here)) | exact .there (.there (.there (.there .here))) | exact .there (.there (.there (.there (.there .here)))) | exact .there (.there (.there (.there (.there (.there .here))))) | exact .there (.there (.there (.there (.there (.there (.there .here))))))); (first | rfl | exact Arr.len _ | (simp; done)); rfl)
            | ((with_reducible apply wpL_load1 (t := 46) kO46 HH.out); rfl; (first | exact .here | exact .there .here | exact .there (.there .here) | exact .there (.there (.there .here)) | exact .there (.there (.there (.there .here))) | exact .there (.there (.there (.there (.there .here)))) | exact .there (.there (.there (.there (.there (.there .here))))) | exact .there (.there (.there (.there (.there (.there (.there .here))))))); rfl; rfl)
            | ((with_reducible apply wpL_len (t := 46) Try.underlying46); rfl; rfl)
            | ((with_reducible apply wpL_len (t := 125) Try.underlying125); rfl; rfl)
            | ((with_reducible apply wpL_move); rfl; rfl)
            | ((with_reducible apply wpL_assign); rfl; rfl)
            | ((with_reducible apply wpL_pick); rfl; rfl; rfl)
            | ((with_reducible apply wpL_not); rfl; rfl)
            | ((with_reducible apply wpL_cmp (b := true)); rfl; rfl; rfl; (first | rfl | assumption | (simp only [cmpB, decide_eq_true_eq, decide_eq_false_iff_not, beq_iff_eq, bne_iff_ne, ne_eq, beq_eq_false_iff_ne, bne_eq_false_iff_eq, gt_iff_lt, ge_iff_le]; omega) | (simp; omega)); rfl)
            | ((with_reducible apply wpL_cmp (b := false)); rfl; rfl; rfl; (first | rfl | assumption | (simp only [cmpB, decide_eq_true_eq, decide_eq_false_iff_not, beq_iff_eq, bne_iff_ne, ne_eq, beq_eq_false_iff_ne, bne_eq_false_iff_eq, gt_iff_lt, ge_iff_le]; omega) | (simp; omega)); rfl)
            | ((with_reducible apply wpL_cmp); rfl; rfl; rfl; rfl; rfl)
            | ((with_reducible apply wpL_arith); rfl; rfl; rfl; (exact IntWalk.i64_in _ (by (try simp only [arithI]); omega)); rfl)); (try simp only [arithI, Act.put, Act.eval, List.setIfInBounds_toArray, List.set_cons_succ, List.set_cons_zero, Array.getD_eq_getD_getElem?, List.getElem?_toArray, List.getElem?_cons_succ, List.getElem?_cons_zero, Option.getD_some])))
      go_loopw [6, 7] (LvRel2 w (upL (k + 1) b) (⟨.slice (some adv) (k + 1) cap1, 46, 1, k + 1, vs⟩ :: rs)) (fun _ i _ => n - (intOf i).toNat)
      case atStart => exact ⟨0, [], none, 0, Nat.zero_le _, rfl, by simp, rfl, HH.out.addNil 34 16⟩
      case round =>
        obtain ⟨j, r, ao2, cap2, hj, rfl, hrj, rfl, hr⟩ := hrel
        clear HH
        have HH := hid hr
        have HRJ := hid hrj
        rw [HUL.out] at hj
        have hrl : r.length = j := by rw [hrj, List.length_take, HUL.out]; omega
        clear hr hrj
        by_cases hjq : j < q
        · have h2j : 2 * j < b.length := by rw [HBN.out]; omega
          have h2j1 : 2 * j + 1 < b.length := by rw [HBN.out]; omega
          have hub := upL_get (k + 1) b j h2j1
          have ex : b.getD (2 * j) Nd0 = b[2 * j] := by simp [h2j]
          have ey : b.getD (2 * j + 1) Nd0 = b[2 * j + 1] := by simp [h2j1]
          rw [ex, ey] at hub
          have HGX0 : ∀ w1, Holds w [] [] (rowA 34 ao2 cap2 r :: ⟨.slice (some adv) (k + 1) cap1, 46, 1, k + 1, vs⟩ :: rs) w1 → Arrs w1 (.slice (some ad) b.length capb) b := fun w1 h1 => h1.slrow (List.mem_cons_of_mem _ (List.mem_cons_of_mem _ HMEM.out))
          have HGX := hid (fun w1 h1 => Arrs.get (HGX0 w1 h1) (2 * j) h2j)
          have HGY := hid (fun w1 h1 => Arrs.get (HGX0 w1 h1) (2 * j + 1) h2j1)
          obtain ⟨x, hx⟩ : ∃ x, b[2 * j] = x := ⟨_, rfl⟩
          obtain ⟨y, hy⟩ : ∃ y, b[2 * j + 1] = y := ⟨_, rfl⟩
          rw [hx] at HGX hub
          rw [hy] at HGY hub
          obtain ⟨d, hd⟩ : ∃ d, joinN ((k + 1 : Nat) : Int) x y = d := ⟨_, rfl⟩
          have HD := hid hd
          rw [hd] at hub
          obtain ⟨r2, hr2⟩ : ∃ r2, r ++ [d] = r2 := ⟨_, rfl⟩
          have HR2 := hid hr2
          have HST := hid (show r2 = (upL (k + 1) b).take (j + 1) by
            have hju : j < (upL (k + 1) b).length := by rw [HUL.out]; exact hjq
            rw [List.getElem?_eq_getElem hju] at hub
            rw [← hr2, HRJ.out, ← List.take_append_getElem hju, Option.some.inj hub])
          clear hub ex ey HGX0 hx hy hd hr2
          go_wp2_with (first
            | ((first
                | ((with_reducible apply wpL_skip); rfl; skip)
                | ((with_reducible apply wpL_nilCheck); rfl; rfl)
                | ((with_reducible apply wpL_loadArr (t := 34) kA34 HH.out); rfl; (first | exact .here | exact .there .here | exact .there (.there .here) | exact .there (.there (.there .here)) | exact .there (.there (.there (.there .here))) | exact .there (.there (.there (.there (.there .here)))) | exact .there (.there (.there (.there (.there (.there .here))))) | exact .there (.there (.there (.there (.there (.there (.there .here))))))); rfl)
                | ((with_reducible apply wpL_loadC (t := 34) kA34 HH.out); rfl; (first | exact .here | exact .there .here | exact .there (.there .here) | exact .there (.there (.there .here)) | exact .there (.there (.there (.there .here))) | exact .there (.there (.there (.there (.there .here)))) | exact .there (.there (.there (.there (.there (.there .here))))) | exact .there (.there (.there (.there (.there (.there (.there .here))))))); (first | rfl | exact Arr.len _ | (simp; done)); rfl)
                | ((with_reducible apply wpL_load1 (t := 46) kO46 HH.out); rfl; (first | exact .here | exact .there .here | exact .there (.there .here) | exact .there (.there (.there .here)) | exact .there (.there (.there (.there .here))) | exact .there (.there (.there (.there (.there .here)))) | exact .there (.there (.there (.there (.there (.there .here))))) | exact .there (.there (.there (.there (.there (.there (.there .here))))))); rfl; rfl)
                | ((with_reducible apply wpL_len (t := 46) Try.underlying46); rfl; rfl)
                | ((with_reducible apply wpL_len (t := 125) Try.underlying125); rfl; rfl)
                | ((with_reducible apply wpL_move); rfl; rfl)
                | ((with_reducible apply wpL_assign); rfl; rfl)
                | ((with_reducible apply wpL_pick); rfl; rfl; rfl)
                | ((with_reducible apply wpL_not); rfl; rfl)
                | ((with_reducible apply wpL_cmp (b := true)); rfl; rfl; rfl; (first | rfl | assumption | (simp only [cmpB, decide_eq_true_eq, decide_eq_false_iff_not, beq_iff_eq, bne_iff_ne, ne_eq, beq_eq_false_iff_ne, bne_eq_false_iff_eq, gt_iff_lt, ge_iff_le]; omega) | (simp; omega)); rfl)
                | ((with_reducible apply wpL_cmp (b := false)); rfl; rfl; rfl; (first | rfl | assumption | (simp only [cmpB, decide_eq_true_eq, decide_eq_false_iff_not, beq_iff_eq, bne_iff_ne, ne_eq, beq_eq_false_iff_ne, bne_eq_false_iff_eq, gt_iff_lt, ge_iff_le]; omega) | (simp; omega)); rfl)
                | ((with_reducible apply wpL_cmp); rfl; rfl; rfl; rfl; rfl)
                | ((with_reducible apply wpL_arith); rfl; rfl; rfl; (exact IntWalk.i64_in _ (by (try simp only [arithI]); omega)); rfl)); (try simp only [arithI, Act.put, Act.eval, List.setIfInBounds_toArray, List.set_cons_succ, List.set_cons_zero, Array.getD_eq_getD_getElem?, List.getElem?_toArray, List.getElem?_cons_succ, List.getElem?_cons_zero, Option.getD_some])))
          refine wp_region_tailR 13 [Asr.is (.slice ao2 r.length cap2), Asr.is (.int .i64 ((k + 1 : Nat) : Int)), Asr.is (.slice (some ad) n capb), Asr.is (.int .i64 ((2 * j : Nat) : Int)), Asr.is (.pointer (some (ad.add (2 * j * 16)))), Asr.is x.val, Asr.is (.slice (some ad) n capb), Asr.is (.int .i64 ((2 * j : Nat) : Int)), Asr.is (.int .i64 ((2 * j + 1 : Nat) : Int)), Asr.is (.pointer (some (ad.add ((2 * j + 1) * 16)))), Asr.is y.val, Asr.is d.val, Asr.full wr.heap.size 34 16 1 (flat [d])] HH.out (by kernel_rfl) (by kernel_rfl) (by kernel_rfl) rfl ?_ ?_
          all_goals simp only [List.take_succ_cons, List.take_zero, List.drop_succ_cons, List.drop_zero]
          · refine eachD_cons ?_ (eachD_cons ?_ (eachD_cons ?_ (eachD_cons ?_ (eachD_cons ?_ (eachD_cons ?_ (eachD_cons ?_ (eachD_cons ?_ (eachD_cons ?_ (eachD_cons ?_ (eachD_cons ?_ (eachD_cons ?_ (eachD_cons ?_ (eachD_nil)))))))))))))
            · intro a_ w1 hI hF hS
              have e6 : a_.eval (.tmp 6) = (.slice ao2 r.length cap2) := (hF.2.2 6 (notDst_of (by kernel_rfl))).trans rfl
              refine wantD (by rfl) ?_
              exact op_val rfl (ex_move rfl w1) e6
            · intro a_ w1 hI hF hS
              have e4 : a_.eval (.tmp 4) = (.int .i64 ((k + 1 : Nat) : Int)) := (hF.2.2 4 (notDst_of (by kernel_rfl))).trans rfl
              refine wantD (by rfl) ?_
              exact op_val rfl (ex_move rfl w1) e4
            · intro a_ w1 hI hF hS
              have e5 : a_.eval (.tmp 5) = (.slice (some ad) n capb) := (hF.2.2 5 (notDst_of (by kernel_rfl))).trans rfl
              refine wantD (by rfl) ?_
              exact op_val rfl (ex_move rfl w1) e5
            · intro a_ w1 hI hF hS
              have e7 : a_.eval (.tmp 7) = (.int .i64 ((2 * j : Nat) : Int)) := (hF.2.2 7 (notDst_of (by kernel_rfl))).trans rfl
              refine wantD (by rfl) ?_
              exact op_val rfl (ex_move rfl w1) e7
            · intro a_ w1 hI hF hS
              have e34 : a_.eval (.tmp 34) = (.slice (some ad) n capb) := hS ⟨2, .data⟩ (by simp) rfl _ rfl
              have e35 : a_.eval (.tmp 35) = (.int .i64 ((2 * j : Nat) : Int)) := hS ⟨3, .data⟩ (by simp) rfl _ rfl
              refine wantD (by rfl) ?_
              exact op_val rfl (ex_index kE46 (j := 2 * j) e34 e35 rfl (by omega) w1) rfl
            · intro a_ w1 hI hF hS
              have e36 : a_.eval (.tmp 36) = (.pointer (some (ad.add (2 * j * 16)))) := hS ⟨4, .data⟩ (by simp) rfl _ rfl
              refine wantD (by rfl) ?_
              exact op_val rfl (ex_load_agg (t := 34) (sz := 16) e36 Try.underlying34 rfl (by kernel_rfl) (Arr.len x) (HGX.out w1 hI.1)) rfl
            · intro a_ w1 hI hF hS
              have e5 : a_.eval (.tmp 5) = (.slice (some ad) n capb) := (hF.2.2 5 (notDst_of (by kernel_rfl))).trans rfl
              refine wantD (by rfl) ?_
              exact op_val rfl (ex_move rfl w1) e5
            · intro a_ w1 hI hF hS
              have e7 : a_.eval (.tmp 7) = (.int .i64 ((2 * j : Nat) : Int)) := (hF.2.2 7 (notDst_of (by kernel_rfl))).trans rfl
              refine wantD (by rfl) ?_
              exact op_val rfl (ex_move rfl w1) e7
            · intro a_ w1 hI hF hS
              have e39 : a_.eval (.tmp 39) = (.int .i64 ((2 * j : Nat) : Int)) := hS ⟨7, .data⟩ (by simp) rfl _ rfl
              refine wantD (by rfl) ?_
              exact op_val rfl (ex_arith (r := ((2 * j + 1 : Nat) : Int)) rfl e39 rfl (by show IntKind.i64.wrap (((2 * j : Nat) : Int) + 1) = _; rw [IntWalk.i64_in _ (by omega)]; omega) w1) rfl
            · intro a_ w1 hI hF hS
              have e38 : a_.eval (.tmp 38) = (.slice (some ad) n capb) := hS ⟨6, .data⟩ (by simp) rfl _ rfl
              have e40 : a_.eval (.tmp 40) = (.int .i64 ((2 * j + 1 : Nat) : Int)) := hS ⟨8, .data⟩ (by simp) rfl _ rfl
              refine wantD (by rfl) ?_
              exact op_val rfl (ex_index kE46 (j := 2 * j + 1) e38 e40 rfl (by omega) w1) rfl
            · intro a_ w1 hI hF hS
              have e41 : a_.eval (.tmp 41) = (.pointer (some (ad.add ((2 * j + 1) * 16)))) := hS ⟨9, .data⟩ (by simp) rfl _ rfl
              refine wantD (by rfl) ?_
              exact op_val rfl (ex_load_agg (t := 34) (sz := 16) e41 Try.underlying34 rfl (by kernel_rfl) (Arr.len y) (HGY.out w1 hI.1)) rfl
            · intro a_ w1 hI hF hS
              have e33 : a_.eval (.tmp 33) = (.int .i64 ((k + 1 : Nat) : Int)) := hS ⟨1, .data⟩ (by simp) rfl _ rfl
              have e37 : a_.eval (.tmp 37) = x.val := hS ⟨5, .data⟩ (by simp) rfl _ rfl
              have e42 : a_.eval (.tmp 42) = y.val := hS ⟨10, .data⟩ (by simp) rfl _ rfl
              refine wantD (by rfl) ?_
              exact op_call (args := #[.int .i64 ((k + 1 : Nat) : Int), x.val, y.val]) kB37 (by show #[a_.eval (.tmp 33), a_.eval (.tmp 37), a_.eval (.tmp 42)] = _; rw [e33, e37, e42]) ((join_any w1 _ x y).mono fun e w' ⟨he, hb⟩ => ⟨_, he, hb, by rw [HD.out]; rfl⟩)
            · intro a_ w1 hI hF hS
              have e43 : a_.eval (.tmp 43) = d.val := hS ⟨11, .data⟩ (by simp) rfl _ rfl
              refine wantD (by rfl) ?_
              obtain ⟨v_, w_, hr_, hb_, hA_⟩ := ex_buildArr (ρ := a_.eval) kE46 [d] (parts := #[(0, .tmp 43)]) (n := 1) rfl (by simp [e43]) (by decide) w1; exact op_new rfl hr_ hb_ (hA_ _ hI.2.size)
          intro wq hq_ hb_
          intro v0_ h0_ v1_ h1_ v2_ h2_ v3_ h3_ v4_ h4_ v5_ h5_ v6_ h6_ v7_ h7_ v8_ h8_ v9_ h9_ v10_ h10_ v11_ h11_ v12_ h12_
          have q_ : v0_ = (.slice ao2 r.length cap2) := h0_; clear h0_; subst q_
          have q_ : v1_ = (.int .i64 ((k + 1 : Nat) : Int)) := h1_; clear h1_; subst q_
          have q_ : v2_ = (.slice (some ad) n capb) := h2_; clear h2_; subst q_
          have q_ : v3_ = (.int .i64 ((2 * j : Nat) : Int)) := h3_; clear h3_; subst q_
          have q_ : v4_ = (.pointer (some (ad.add (2 * j * 16)))) := h4_; clear h4_; subst q_
          have q_ : v5_ = x.val := h5_; clear h5_; subst q_
          have q_ : v6_ = (.slice (some ad) n capb) := h6_; clear h6_; subst q_
          have q_ : v7_ = (.int .i64 ((2 * j : Nat) : Int)) := h7_; clear h7_; subst q_
          have q_ : v8_ = (.int .i64 ((2 * j + 1 : Nat) : Int)) := h8_; clear h8_; subst q_
          have q_ : v9_ = (.pointer (some (ad.add ((2 * j + 1) * 16)))) := h9_; clear h9_; subst q_
          have q_ : v10_ = y.val := h10_; clear h10_; subst q_
          have q_ : v11_ = d.val := h11_; clear h11_; subst q_
          have K12 := hid h12_; clear h12_
          simp only [endD, putsD, Act.put, List.setIfInBounds_toArray, List.set_cons_succ, List.set_cons_zero]
          have HQ := hid hq_; clear hq_
          have HB_ := hid hb_; clear hb_
          obtain ⟨ad3, c3, rfl⟩ := row_shape K12.out.2
          have hq2_ := HH.out.addRow HB_.out K12.out.2
          clear HH HQ K12 HB_
          have HH := hid hq2_
          clear hq2_
          go_wp2_with (first
            | ((first
                | ((with_reducible apply wpL_skip); rfl; skip)
                | ((with_reducible apply wpL_appendA (l := r) (l2 := [d]) (r := r2) kE46 HH.out.swap HH.out.sl0 HR2.out); rfl; rfl; (exact (by simp; omega)); rfl; rfl; rfl; (intro ao4 cap4 w_ hq_; clear HH; have HH := hid hq_.dropSnd; clear hq_))
                | ((with_reducible apply wpL_nilCheck); rfl; rfl)
                | ((with_reducible apply wpL_loadArr (t := 34) kA34 HH.out); rfl; (first | exact .here | exact .there .here | exact .there (.there .here) | exact .there (.there (.there .here)) | exact .there (.there (.there (.there .here))) | exact .there (.there (.there (.there (.there .here)))) | exact .there (.there (.there (.there (.there (.there .here))))) | exact .there (.there (.there (.there (.there (.there (.there .here))))))); rfl)
                | ((with_reducible apply wpL_loadC (t := 34) kA34 HH.out); rfl; (first | exact .here | exact .there .here | exact .there (.there .here) | exact .there (.there (.there .here)) | exact .there (.there (.there (.there .here))) | exact .there (.there (.there (.there (.there .here)))) | exact .there (.there (.there (.there (.there (.there .here))))) | exact .there (.there (.there (.there (.there (.there (.there .here))))))); (first | rfl | exact Arr.len _ | (simp; done)); rfl)
                | ((with_reducible apply wpL_load1 (t := 46) kO46 HH.out); rfl; (first | exact .here | exact .there .here | exact .there (.there .here) | exact .there (.there (.there .here)) | exact .there (.there (.there (.there .here))) | exact .there (.there (.there (.there (.there .here)))) | exact .there (.there (.there (.there (.there (.there .here))))) | exact .there (.there (.there (.there (.there (.there (.there .here))))))); rfl; rfl)
                | ((with_reducible apply wpL_len (t := 46) Try.underlying46); rfl; rfl)
                | ((with_reducible apply wpL_len (t := 125) Try.underlying125); rfl; rfl)
                | ((with_reducible apply wpL_move); rfl; rfl)
                | ((with_reducible apply wpL_assign); rfl; rfl)
                | ((with_reducible apply wpL_pick); rfl; rfl; rfl)
                | ((with_reducible apply wpL_not); rfl; rfl)
                | ((with_reducible apply wpL_cmp (b := true)); rfl; rfl; rfl; (first | rfl | assumption | (simp only [cmpB, decide_eq_true_eq, decide_eq_false_iff_not, beq_iff_eq, bne_iff_ne, ne_eq, beq_eq_false_iff_ne, bne_eq_false_iff_eq, gt_iff_lt, ge_iff_le]; omega) | (simp; omega)); rfl)
                | ((with_reducible apply wpL_cmp (b := false)); rfl; rfl; rfl; (first | rfl | assumption | (simp only [cmpB, decide_eq_true_eq, decide_eq_false_iff_not, beq_iff_eq, bne_iff_ne, ne_eq, beq_eq_false_iff_ne, bne_eq_false_iff_eq, gt_iff_lt, ge_iff_le]; omega) | (simp; omega)); rfl)
                | ((with_reducible apply wpL_cmp); rfl; rfl; rfl; rfl; rfl)
                | ((with_reducible apply wpL_arith); rfl; rfl; rfl; (exact IntWalk.i64_in _ (by (try simp only [arithI]); omega)); rfl)); (try simp only [arithI, Act.put, Act.eval, List.setIfInBounds_toArray, List.set_cons_succ, List.set_cons_zero, Array.getD_eq_getD_getElem?, List.getElem?_toArray, List.getElem?_cons_succ, List.getElem?_cons_zero, Option.getD_some])))
          go_roundw
          case rel => exact ⟨j + 1, r2, _, _, by rw [HUL.out]; omega, by go_num, HST.out, rfl, HH.out⟩
          case measure => simp [intOf]; omega
        · obtain rfl : j = q := by omega
          have hre : r = levAt l (k + 1) := by rw [HRJ.out, ← HUL.out, List.take_length, levAt, HB.out]
          have HNX := hid (HLV.out.next ao2 cap2)
          rw [← hre] at HNX
          clear hre
          go_wp2_with (first
            | ((first
                | ((with_reducible apply wpL_skip); rfl; skip)
                | ((with_reducible apply wpL_buildV1 (.slice ao2 r.length cap2) rfl); rfl; (exact HH.out); rfl; (intro g_ w_ hq_; clear HH; have HH := hid hq_; clear hq_))
                | ((with_reducible apply wpL_appendV (v := .slice ao2 r.length cap2) HH.out.third HH.out.sl0 rfl); (exact (by omega)); rfl; rfl; rfl; (intro ao4 cap4 w_ hq_; clear HH; have HH := hid (Holds.dropSnd hq_); clear hq_))
                | ((with_reducible apply wpL_nilCheck); rfl; rfl)
                | ((with_reducible apply wpL_loadArr (t := 34) kA34 HH.out); rfl; (first | exact .here | exact .there .here | exact .there (.there .here) | exact .there (.there (.there .here)) | exact .there (.there (.there (.there .here))) | exact .there (.there (.there (.there (.there .here)))) | exact .there (.there (.there (.there (.there (.there .here))))) | exact .there (.there (.there (.there (.there (.there (.there .here))))))); rfl)
                | ((with_reducible apply wpL_loadC (t := 34) kA34 HH.out); rfl; (first | exact .here | exact .there .here | exact .there (.there .here) | exact .there (.there (.there .here)) | exact .there (.there (.there (.there .here))) | exact .there (.there (.there (.there (.there .here)))) | exact .there (.there (.there (.there (.there (.there .here))))) | exact .there (.there (.there (.there (.there (.there (.there .here))))))); (first | rfl | exact Arr.len _ | (simp; done)); rfl)
                | ((with_reducible apply wpL_load1 (t := 46) kO46 HH.out); rfl; (first | exact .here | exact .there .here | exact .there (.there .here) | exact .there (.there (.there .here)) | exact .there (.there (.there (.there .here))) | exact .there (.there (.there (.there (.there .here)))) | exact .there (.there (.there (.there (.there (.there .here))))) | exact .there (.there (.there (.there (.there (.there (.there .here))))))); rfl; rfl)
                | ((with_reducible apply wpL_len (t := 46) Try.underlying46); rfl; rfl)
                | ((with_reducible apply wpL_len (t := 125) Try.underlying125); rfl; rfl)
                | ((with_reducible apply wpL_move); rfl; rfl)
                | ((with_reducible apply wpL_assign); rfl; rfl)
                | ((with_reducible apply wpL_pick); rfl; rfl; rfl)
                | ((with_reducible apply wpL_not); rfl; rfl)
                | ((with_reducible apply wpL_cmp (b := true)); rfl; rfl; rfl; (first | rfl | assumption | (simp only [cmpB, decide_eq_true_eq, decide_eq_false_iff_not, beq_iff_eq, bne_iff_ne, ne_eq, beq_eq_false_iff_ne, bne_eq_false_iff_eq, gt_iff_lt, ge_iff_le]; omega) | (simp; omega)); rfl)
                | ((with_reducible apply wpL_cmp (b := false)); rfl; rfl; rfl; (first | rfl | assumption | (simp only [cmpB, decide_eq_true_eq, decide_eq_false_iff_not, beq_iff_eq, bne_iff_ne, ne_eq, beq_eq_false_iff_ne, bne_eq_false_iff_eq, gt_iff_lt, ge_iff_le]; omega) | (simp; omega)); rfl)
                | ((with_reducible apply wpL_cmp); rfl; rfl; rfl; rfl; rfl)
                | ((with_reducible apply wpL_arith); rfl; rfl; rfl; (exact IntWalk.i64_in _ (by (try simp only [arithI]); omega)); rfl)); (try simp only [arithI, Act.put, Act.eval, List.setIfInBounds_toArray, List.set_cons_succ, List.set_cons_zero, Array.getD_eq_getD_getElem?, List.getElem?_toArray, List.getElem?_cons_succ, List.getElem?_cons_zero, Option.getD_some])))
          go_roundw
          case rel => exact ⟨k + 1, _, _, _, _, hkh, by go_num, rfl, HNX.out, HH.out⟩
          case measure => simp [intOf]; omega
    · obtain rfl : k = h := by omega
      have hn0 : n = 1 := by rw [HLN.out, Nat.sub_self]
      go_wp2_with (first
        | ((first
            | ((with_reducible apply wpL_skip); rfl; skip)
            | ((with_reducible apply wpL_idxB (j := k) kE125); rfl; rfl; (exact (by omega)); (exact (by omega)); rfl)
            | ((with_reducible apply wpL_loadAt (t := 46) (v := .slice (some ad) n capb) kO46); (have hc_ := HH.out.sl0.cell k (.slice (some ad) n capb) HVK.out; exact hc_); rfl; rfl)
            | ((with_reducible apply wpL_nilCheck); rfl; rfl)
            | ((with_reducible apply wpL_loadArr (t := 34) kA34 HH.out); rfl; (first | exact .here | exact .there .here | exact .there (.there .here) | exact .there (.there (.there .here)) | exact .there (.there (.there (.there .here))) | exact .there (.there (.there (.there (.there .here)))) | exact .there (.there (.there (.there (.there (.there .here))))) | exact .there (.there (.there (.there (.there (.there (.there .here))))))); rfl)
            | ((with_reducible apply wpL_loadC (t := 34) kA34 HH.out); rfl; (first | exact .here | exact .there .here | exact .there (.there .here) | exact .there (.there (.there .here)) | exact .there (.there (.there (.there .here))) | exact .there (.there (.there (.there (.there .here)))) | exact .there (.there (.there (.there (.there (.there .here))))) | exact .there (.there (.there (.there (.there (.there (.there .here))))))); (first | rfl | exact Arr.len _ | (simp; done)); rfl)
            | ((with_reducible apply wpL_load1 (t := 46) kO46 HH.out); rfl; (first | exact .here | exact .there .here | exact .there (.there .here) | exact .there (.there (.there .here)) | exact .there (.there (.there (.there .here))) | exact .there (.there (.there (.there (.there .here)))) | exact .there (.there (.there (.there (.there (.there .here))))) | exact .there (.there (.there (.there (.there (.there (.there .here))))))); rfl; rfl)
            | ((with_reducible apply wpL_len (t := 46) Try.underlying46); rfl; rfl)
            | ((with_reducible apply wpL_len (t := 125) Try.underlying125); rfl; rfl)
            | ((with_reducible apply wpL_move); rfl; rfl)
            | ((with_reducible apply wpL_assign); rfl; rfl)
            | ((with_reducible apply wpL_pick); rfl; rfl; rfl)
            | ((with_reducible apply wpL_not); rfl; rfl)
            | ((with_reducible apply wpL_cmp (b := true)); rfl; rfl; rfl; (first | rfl | assumption | (simp only [cmpB, decide_eq_true_eq, decide_eq_false_iff_not, beq_iff_eq, bne_iff_ne, ne_eq, beq_eq_false_iff_ne, bne_eq_false_iff_eq, gt_iff_lt, ge_iff_le]; omega) | (simp; omega)); rfl)
            | ((with_reducible apply wpL_cmp (b := false)); rfl; rfl; rfl; (first | rfl | assumption | (simp only [cmpB, decide_eq_true_eq, decide_eq_false_iff_not, beq_iff_eq, bne_iff_ne, ne_eq, beq_eq_false_iff_ne, bne_eq_false_iff_eq, gt_iff_lt, ge_iff_le]; omega) | (simp; omega)); rfl)
            | ((with_reducible apply wpL_cmp); rfl; rfl; rfl; rfl; rfl)
            | ((with_reducible apply wpL_arith); rfl; rfl; rfl; (exact IntWalk.i64_in _ (by (try simp only [arithI]); omega)); rfl)); (try simp only [arithI, Act.put, Act.eval, List.setIfInBounds_toArray, List.set_cons_succ, List.set_cons_zero, Array.getD_eq_getD_getElem?, List.getElem?_toArray, List.getElem?_cons_succ, List.getElem?_cons_zero, Option.getD_some])))
      go_ret
      exact RetLvO.of HLV.out HH.out

/-- The rows of the levels are levels as they lie, whatever else is held. -/
theorem LvRows.at {w w0 : World} {S : List Nat} {bs : List (Nat × Obj)} {l : List Nd} {h : Nat} {vs : List Value} {rs : List Row} {ao : Option Addr} {cap : Nat} (hl : l.length = 2 ^ h) (H : LvRows l (h + 1) vs rs) (hH : Holds w0 S bs (⟨.slice ao (h + 1) cap, 46, 1, h + 1, vs⟩ :: rs) w) :
    LvsAt w (.slice ao (h + 1) cap) l h := by
  have hln : (levelsL l h).length = h + 1 := by simp [levelsL]
  have h1 : RetLv w (levelsL l h) (.returned (.slice ao (h + 1) cap)) w := ⟨ao, cap, by rw [hln], Below.refl _ _, H.lvs hH⟩
  obtain ⟨v, e, _, h2⟩ := h1.get hl
  cases e
  exact h2
/-- What the iterator hands back. -/
def RetIt (J : Nat → World → Prop) (Jx : World → Prop) (n : Nat) (e : Ending) (W' : World) : Prop := (∃ v, e = .returned v) ∧ (J n W' ∨ Jx W')
theorem noOut {fn : Func} {J : Nat → World → Prop} {Jx : World → Prop} {n : Nat} : ¬ LetsOut (bodyPost Try.prog fn (RetIt J Jx n)) := by
  rintro ⟨_, _, ⟨_, h⟩, _⟩
  cases h
set_option maxRecDepth 100000 in
set_option maxHeartbeats 4000000 in
theorem pathsIt_any (lp B : Nat) (l : List Nd) (ao : Option Addr) (cap : Nat) (J : Nat → World → Prop) (Jx : World → Prop) (hn : l.length ≤ 1000000000) (w : World)
    (hB : ∀ k W, J k W → W.cell? ⟨B, 0, none⟩ = some (.slice ao l.length cap) ∧ Arrs W (.slice ao l.length cap) l)
    (hg : ∀ k W W', J k W → Below W.heap.size W W' → J k W')
    (hY : ∀ k W ao2 cap2 m, checkC l.length = 0 → k < l.length → w.heap.size ≤ W.heap.size → m = (pathV l k).length → J k W → Arrs W (.slice ao2 (pathV l k).length cap2) (pathV l k) →
      YieldAt (wideR none) 0 Try.prog lp #[.int .i64 (k : Int), .slice ao2 m cap2] W fun e W' => (e = .returned (.bool true) ∧ J (k + 1) W' ∧ Keeps w.heap.size W W') ∨ (e = .returned (.bool false) ∧ Jx W'))
    (h0 : J 0 w) :
    Calls Try.prog 78 #[.func (.yield lp) #[] #[], .pointer (some ⟨B, 0, none⟩)] w (RetIt J Jx (if checkC l.length = 0 then l.length else 0)) := by
  have HB := hid hB
  have HG := hid hg
  have HY := hid hY
  have HJ := hid h0
  have HH := hid (Holds.init2 w)
  obtain ⟨c, hc⟩ : ∃ c, checkC l.length = c := ⟨_, rfl⟩
  have HC := hid hc
  clear hB hg hY h0
  by_cases hc0 : c = 0
  · subst hc0
    obtain ⟨h, hh, hlh⟩ := check_pow hc
    have HLH := hid hlh
    have HE := hid (show (if checkC l.length = 0 then l.length else 0) = l.length by rw [if_pos hc])
    rw [HE.out]
    have HP := hid (fun (k : Nat) (hk : k < l.length) => show pathV l k = pathL l h k by
      have e1 : pathC l (k : Int) = 0 := by unfold pathC; rw [if_pos hc, if_neg (by omega)]
      unfold pathV
      rw [if_pos e1, hlh, Nat.log2_two_pow]
      rfl)
    clear hc hlh
    go_enter Try.func78, Try.ntmps78
    go_wp2_with (first
      | ((first
          | ((with_reducible apply wpL_skip); rfl; skip)
          | ((with_reducible apply wpL_loadAt (t := 46) (v := .slice ao l.length cap) kO46); (have hc_ := (HB.out _ _ HJ.out).1; exact hc_); rfl; rfl)
          | (go_at_call 67; (with_reducible refine (check_any _ _ l (HB.out _ _ HJ.out).2 hn).mono ?_); rw [HC.out]; rintro e_ w2_ ⟨rfl, hb_⟩; (have hq_ := HH.out.grow hb_); (have hj_ := HG.out _ _ _ HJ.out hb_); clear HH HJ; have HH := hid hq_; have HJ := hid hj_; clear hq_ hj_ hb_)
          | (go_at_call 68; (with_reducible refine (levelsO_any _ _ l h (HB.out _ _ HJ.out).2 hh HLH.out).mono ?_); rintro e_ w2_ ⟨vs, rs, aoL, capL, rfl, hlv_, hq0_⟩; (have hq_ := HH.out.join hq0_); (have hj_ := HG.out _ _ _ HJ.out hq0_.below); rw [List.append_nil] at hq_; clear HH HJ; have HH := hid hq_; have HJ := hid hj_; have HV := hid hlv_; clear hq_ hj_ hlv_ hq0_)
          | ((with_reducible apply wpL_nilCheck); rfl; rfl)
          | ((with_reducible apply wpL_load1 (t := 46) kO46 HH.out); rfl; (first | exact .here | exact .there .here | exact .there (.there .here) | exact .there (.there (.there .here)) | exact .there (.there (.there (.there .here))) | exact .there (.there (.there (.there (.there .here)))) | exact .there (.there (.there (.there (.there (.there .here))))) | exact .there (.there (.there (.there (.there (.there (.there .here))))))); rfl; rfl)
          | ((with_reducible apply wpL_len (t := 46) Try.underlying46); rfl; rfl)
          | ((with_reducible apply wpL_move); rfl; rfl)
          | ((with_reducible apply wpL_assign); rfl; rfl)
          | ((with_reducible apply wpL_pick); rfl; rfl; rfl)
          | ((with_reducible apply wpL_not); rfl; rfl)
          | ((with_reducible apply wpL_cmp (b := true)); rfl; rfl; rfl; (first | rfl | assumption | (simp only [cmpB, decide_eq_true_eq, decide_eq_false_iff_not, beq_iff_eq, bne_iff_ne, ne_eq, beq_eq_false_iff_ne, bne_eq_false_iff_eq, gt_iff_lt, ge_iff_le]; omega) | (simp; omega)); rfl)
          | ((with_reducible apply wpL_cmp (b := false)); rfl; rfl; rfl; (first | rfl | assumption | (simp only [cmpB, decide_eq_true_eq, decide_eq_false_iff_not, beq_iff_eq, bne_iff_ne, ne_eq, beq_eq_false_iff_ne, bne_eq_false_iff_eq, gt_iff_lt, ge_iff_le]; omega) | (simp; omega)); rfl)
          | ((with_reducible apply wpL_cmp); rfl; rfl; rfl; rfl; rfl)
          | ((with_reducible apply wpL_arith); rfl; rfl; rfl; (exact IntWalk.i64_in _ (by (try simp only [arithI]); omega)); rfl)); (try simp only [arithI, Act.put, Act.eval, List.setIfInBounds_toArray, List.set_cons_succ, List.set_cons_zero, Array.getD_eq_getD_getElem?, List.getElem?_toArray, List.getElem?_cons_succ, List.getElem?_cons_zero, Option.getD_some])))
    go_loopw [12] (fun i wr => ∃ k : Nat, k ≤ l.length ∧ i = .int .i64 k ∧ Holds w (List.range w.heap.size) [] (⟨.slice aoL (h + 1) capL, 46, 1, h + 1, vs⟩ :: rs) wr ∧ J k wr) (fun i _ => l.length - (intOf i).toNat)
    case atStart => exact ⟨0, Nat.zero_le _, rfl, HH.out, HJ.out⟩
    case round =>
      obtain ⟨k, hk, rfl, hr, hj⟩ := hrel
      clear HH HJ
      have HH := hid hr
      have HJ := hid hj
      clear hr hj
      by_cases hkl : k < l.length
      · have hkh : k < 2 ^ h := by rw [← HLH.out]; exact hkl
        have HKH := hid hkh
        have HPK := hid (HP.out k hkl)
        obtain ⟨p, hp⟩ : ∃ p, pathL l h k = p := ⟨_, rfl⟩
        have HPE := hid hp
        rw [hp] at HPK
        clear hp hkh
        refine wp_seq_k fun K1 hK1 => ?_
        have HK1 := hid hK1
        clear hK1
        go_wp2_with (first
          | ((first
              | ((with_reducible apply wpL_skip); rfl; skip)
              | ((with_reducible apply wpL_nilCheck); rfl; rfl)
              | ((with_reducible apply wpL_load1 (t := 46) kO46 HH.out); rfl; (first | exact .here | exact .there .here | exact .there (.there .here) | exact .there (.there (.there .here)) | exact .there (.there (.there (.there .here))) | exact .there (.there (.there (.there (.there .here)))) | exact .there (.there (.there (.there (.there (.there .here))))) | exact .there (.there (.there (.there (.there (.there (.there .here))))))); rfl; rfl)
              | ((with_reducible apply wpL_len (t := 46) Try.underlying46); rfl; rfl)
              | ((with_reducible apply wpL_move); rfl; rfl)
              | ((with_reducible apply wpL_assign); rfl; rfl)
              | ((with_reducible apply wpL_pick); rfl; rfl; rfl)
              | ((with_reducible apply wpL_not); rfl; rfl)
              | ((with_reducible apply wpL_cmp (b := true)); rfl; rfl; rfl; (first | rfl | assumption | (simp only [cmpB, decide_eq_true_eq, decide_eq_false_iff_not, beq_iff_eq, bne_iff_ne, ne_eq, beq_eq_false_iff_ne, bne_eq_false_iff_eq, gt_iff_lt, ge_iff_le]; omega) | (simp; omega)); rfl)
              | ((with_reducible apply wpL_cmp (b := false)); rfl; rfl; rfl; (first | rfl | assumption | (simp only [cmpB, decide_eq_true_eq, decide_eq_false_iff_not, beq_iff_eq, bne_iff_ne, ne_eq, beq_eq_false_iff_ne, bne_eq_false_iff_eq, gt_iff_lt, ge_iff_le]; omega) | (simp; omega)); rfl)
              | ((with_reducible apply wpL_cmp); rfl; rfl; rfl; rfl; rfl)
              | ((with_reducible apply wpL_arith); rfl; rfl; rfl; (exact IntWalk.i64_in _ (by (try simp only [arithI]); omega)); rfl)); (try simp only [arithI, Act.put, Act.eval, List.setIfInBounds_toArray, List.set_cons_succ, List.set_cons_zero, Array.getD_eq_getD_getElem?, List.getElem?_toArray, List.getElem?_cons_succ, List.getElem?_cons_zero, Option.getD_some])))
        refine HK1.out _ _ ?_
        clear HK1
        refine wp_seq_k fun K2 hK2 => ?_
        have HK2 := hid hK2
        clear hK2
        go_wp2_with (first
          | ((first
              | ((with_reducible apply wpL_skip); rfl; skip)
              | ((with_reducible apply wpL_nilCheck); rfl; rfl)
              | ((with_reducible apply wpL_load1 (t := 46) kO46 HH.out); rfl; (first | exact .here | exact .there .here | exact .there (.there .here) | exact .there (.there (.there .here)) | exact .there (.there (.there (.there .here))) | exact .there (.there (.there (.there (.there .here)))) | exact .there (.there (.there (.there (.there (.there .here))))) | exact .there (.there (.there (.there (.there (.there (.there .here))))))); rfl; rfl)
              | ((with_reducible apply wpL_len (t := 46) Try.underlying46); rfl; rfl)
              | ((with_reducible apply wpL_move); rfl; rfl)
              | ((with_reducible apply wpL_assign); rfl; rfl)
              | ((with_reducible apply wpL_pick); rfl; rfl; rfl)
              | ((with_reducible apply wpL_not); rfl; rfl)
              | ((with_reducible apply wpL_cmp (b := true)); rfl; rfl; rfl; (first | rfl | assumption | (simp only [cmpB, decide_eq_true_eq, decide_eq_false_iff_not, beq_iff_eq, bne_iff_ne, ne_eq, beq_eq_false_iff_ne, bne_eq_false_iff_eq, gt_iff_lt, ge_iff_le]; omega) | (simp; omega)); rfl)
              | ((with_reducible apply wpL_cmp (b := false)); rfl; rfl; rfl; (first | rfl | assumption | (simp only [cmpB, decide_eq_true_eq, decide_eq_false_iff_not, beq_iff_eq, bne_iff_ne, ne_eq, beq_eq_false_iff_ne, bne_eq_false_iff_eq, gt_iff_lt, ge_iff_le]; omega) | (simp; omega)); rfl)
              | ((with_reducible apply wpL_cmp); rfl; rfl; rfl; rfl; rfl)
              | ((with_reducible apply wpL_arith); rfl; rfl; rfl; (exact IntWalk.i64_in _ (by (try simp only [arithI]); omega)); rfl)); (try simp only [arithI, Act.put, Act.eval, List.setIfInBounds_toArray, List.set_cons_succ, List.set_cons_zero, Array.getD_eq_getD_getElem?, List.getElem?_toArray, List.getElem?_cons_succ, List.getElem?_cons_zero, Option.getD_some])))
        refine HK2.out _ _ ?_
        clear HK2
        refine wp_seq_k fun K3 hK3 => ?_
        have HK3 := hid hK3
        clear hK3
        refine wp_block ?_
        refine wp_seq_k fun K4 hK4 => ?_
        have HK4 := hid hK4
        clear hK4
        go_wp2_with (first
          | ((first
              | ((with_reducible apply wpL_skip); rfl; skip)
              | ((with_reducible apply wpL_nilCheck); rfl; rfl)
              | ((with_reducible apply wpL_load1 (t := 46) kO46 HH.out); rfl; (first | exact .here | exact .there .here | exact .there (.there .here) | exact .there (.there (.there .here)) | exact .there (.there (.there (.there .here))) | exact .there (.there (.there (.there (.there .here)))) | exact .there (.there (.there (.there (.there (.there .here))))) | exact .there (.there (.there (.there (.there (.there (.there .here))))))); rfl; rfl)
              | ((with_reducible apply wpL_len (t := 46) Try.underlying46); rfl; rfl)
              | ((with_reducible apply wpL_move); rfl; rfl)
              | ((with_reducible apply wpL_assign); rfl; rfl)
              | ((with_reducible apply wpL_pick); rfl; rfl; rfl)
              | ((with_reducible apply wpL_not); rfl; rfl)
              | ((with_reducible apply wpL_cmp (b := true)); rfl; rfl; rfl; (first | rfl | assumption | (simp only [cmpB, decide_eq_true_eq, decide_eq_false_iff_not, beq_iff_eq, bne_iff_ne, ne_eq, beq_eq_false_iff_ne, bne_eq_false_iff_eq, gt_iff_lt, ge_iff_le]; omega) | (simp; omega)); rfl)
              | ((with_reducible apply wpL_cmp (b := false)); rfl; rfl; rfl; (first | rfl | assumption | (simp only [cmpB, decide_eq_true_eq, decide_eq_false_iff_not, beq_iff_eq, bne_iff_ne, ne_eq, beq_eq_false_iff_ne, bne_eq_false_iff_eq, gt_iff_lt, ge_iff_le]; omega) | (simp; omega)); rfl)
              | ((with_reducible apply wpL_cmp); rfl; rfl; rfl; rfl; rfl)
              | ((with_reducible apply wpL_arith); rfl; rfl; rfl; (exact IntWalk.i64_in _ (by (try simp only [arithI]); omega)); rfl)); (try simp only [arithI, Act.put, Act.eval, List.setIfInBounds_toArray, List.set_cons_succ, List.set_cons_zero, Array.getD_eq_getD_getElem?, List.getElem?_toArray, List.getElem?_cons_succ, List.getElem?_cons_zero, Option.getD_some])))
        refine HK4.out _ _ ?_
        clear HK4
        refine wp_seq_k fun K5 hK5 => ?_
        have HK5 := hid hK5
        clear hK5
        refine region_pre (n := 0) 5 (noOut (fn := Try.f78)) (by rfl) ?_
        simp only [List.take_succ_cons, List.take_zero, List.drop_succ_cons, List.drop_zero]
        go_wp2_with (first
          | ((first
              | ((with_reducible apply wpL_skip); rfl; skip)
              | (go_at_call 76; (with_reducible refine (path_any _ _ l h k (LvRows.at HLH.out HV.out HH.out) HLH.out hh HKH.out).mono ?_); rw [HPE.out]; rintro e_ w2_ ⟨ao2, cap2, rfl, hr_, hb_⟩; (have hq_ := HH.out.grow hb_); (have hj_ := HG.out _ _ _ HJ.out hb_); clear HH HJ; have HH := hid hq_; have HJ := hid hj_; have HR := hid (Sl.of_row hr_); clear hq_ hj_ hb_ hr_)
              | ((with_reducible apply wpL_nilCheck); rfl; rfl)
              | ((with_reducible apply wpL_load1 (t := 46) kO46 HH.out); rfl; (first | exact .here | exact .there .here | exact .there (.there .here) | exact .there (.there (.there .here)) | exact .there (.there (.there (.there .here))) | exact .there (.there (.there (.there (.there .here)))) | exact .there (.there (.there (.there (.there (.there .here))))) | exact .there (.there (.there (.there (.there (.there (.there .here))))))); rfl; rfl)
              | ((with_reducible apply wpL_len (t := 46) Try.underlying46); rfl; rfl)
              | ((with_reducible apply wpL_move); rfl; rfl)
              | ((with_reducible apply wpL_assign); rfl; rfl)
              | ((with_reducible apply wpL_pick); rfl; rfl; rfl)
              | ((with_reducible apply wpL_not); rfl; rfl)
              | ((with_reducible apply wpL_cmp (b := true)); rfl; rfl; rfl; (first | rfl | assumption | (simp only [cmpB, decide_eq_true_eq, decide_eq_false_iff_not, beq_iff_eq, bne_iff_ne, ne_eq, beq_eq_false_iff_ne, bne_eq_false_iff_eq, gt_iff_lt, ge_iff_le]; omega) | (simp; omega)); rfl)
              | ((with_reducible apply wpL_cmp (b := false)); rfl; rfl; rfl; (first | rfl | assumption | (simp only [cmpB, decide_eq_true_eq, decide_eq_false_iff_not, beq_iff_eq, bne_iff_ne, ne_eq, beq_eq_false_iff_ne, bne_eq_false_iff_eq, gt_iff_lt, ge_iff_le]; omega) | (simp; omega)); rfl)
              | ((with_reducible apply wpL_cmp); rfl; rfl; rfl; rfl; rfl)
              | ((with_reducible apply wpL_arith); rfl; rfl; rfl; (exact IntWalk.i64_in _ (by (try simp only [arithI]); omega)); rfl)); (try simp only [arithI, Act.put, Act.eval, List.setIfInBounds_toArray, List.set_cons_succ, List.set_cons_zero, Array.getD_eq_getD_getElem?, List.getElem?_toArray, List.getElem?_cons_succ, List.getElem?_cons_zero, Option.getD_some])))
        have hy := HY.out k _ ao2 cap2 p.length HC.out hkl HH.out.size (by rw [HPK.out]) HJ.out (by rw [HPK.out]; exact HR.out)
        refine list_yield (n := 0) rfl rfl hy ?_
        rintro e W3 (⟨rfl, hj3, hk3⟩ | ⟨rfl, hx3⟩)
        · have hq_ := HH.out.kept hk3
          clear HH HJ HR hy hk3
          have HH := hid hq_
          have HJ := hid hj3
          clear hq_ hj3
          refine ⟨_, rfl, rest_in (noOut (fn := Try.f78)) rfl ?_⟩
          go_wp2_with (first
            | ((first
                | ((with_reducible apply wpL_skip); rfl; skip)
                | ((with_reducible apply wpL_nilCheck); rfl; rfl)
                | ((with_reducible apply wpL_load1 (t := 46) kO46 HH.out); rfl; (first | exact .here | exact .there .here | exact .there (.there .here) | exact .there (.there (.there .here)) | exact .there (.there (.there (.there .here))) | exact .there (.there (.there (.there (.there .here)))) | exact .there (.there (.there (.there (.there (.there .here))))) | exact .there (.there (.there (.there (.there (.there (.there .here))))))); rfl; rfl)
                | ((with_reducible apply wpL_len (t := 46) Try.underlying46); rfl; rfl)
                | ((with_reducible apply wpL_move); rfl; rfl)
                | ((with_reducible apply wpL_assign); rfl; rfl)
                | ((with_reducible apply wpL_pick); rfl; rfl; rfl)
                | ((with_reducible apply wpL_not); rfl; rfl)
                | ((with_reducible apply wpL_cmp (b := true)); rfl; rfl; rfl; (first | rfl | assumption | (simp only [cmpB, decide_eq_true_eq, decide_eq_false_iff_not, beq_iff_eq, bne_iff_ne, ne_eq, beq_eq_false_iff_ne, bne_eq_false_iff_eq, gt_iff_lt, ge_iff_le]; omega) | (simp; omega)); rfl)
                | ((with_reducible apply wpL_cmp (b := false)); rfl; rfl; rfl; (first | rfl | assumption | (simp only [cmpB, decide_eq_true_eq, decide_eq_false_iff_not, beq_iff_eq, bne_iff_ne, ne_eq, beq_eq_false_iff_ne, bne_eq_false_iff_eq, gt_iff_lt, ge_iff_le]; omega) | (simp; omega)); rfl)
                | ((with_reducible apply wpL_cmp); rfl; rfl; rfl; rfl; rfl)
                | ((with_reducible apply wpL_arith); rfl; rfl; rfl; (exact IntWalk.i64_in _ (by (try simp only [arithI]); omega)); rfl)); (try simp only [arithI, Act.put, Act.eval, List.setIfInBounds_toArray, List.set_cons_succ, List.set_cons_zero, Array.getD_eq_getD_getElem?, List.getElem?_toArray, List.getElem?_cons_succ, List.getElem?_cons_zero, Option.getD_some])))
          refine HK5.out _ _ ?_
          clear HK5
          go_wp2_with (first
            | ((first
                | ((with_reducible apply wpL_skip); rfl; skip)
                | ((with_reducible apply wpL_nilCheck); rfl; rfl)
                | ((with_reducible apply wpL_load1 (t := 46) kO46 HH.out); rfl; (first | exact .here | exact .there .here | exact .there (.there .here) | exact .there (.there (.there .here)) | exact .there (.there (.there (.there .here))) | exact .there (.there (.there (.there (.there .here)))) | exact .there (.there (.there (.there (.there (.there .here))))) | exact .there (.there (.there (.there (.there (.there (.there .here))))))); rfl; rfl)
                | ((with_reducible apply wpL_len (t := 46) Try.underlying46); rfl; rfl)
                | ((with_reducible apply wpL_move); rfl; rfl)
                | ((with_reducible apply wpL_assign); rfl; rfl)
                | ((with_reducible apply wpL_pick); rfl; rfl; rfl)
                | ((with_reducible apply wpL_not); rfl; rfl)
                | ((with_reducible apply wpL_cmp (b := true)); rfl; rfl; rfl; (first | rfl | assumption | (simp only [cmpB, decide_eq_true_eq, decide_eq_false_iff_not, beq_iff_eq, bne_iff_ne, ne_eq, beq_eq_false_iff_ne, bne_eq_false_iff_eq, gt_iff_lt, ge_iff_le]; omega) | (simp; omega)); rfl)
                | ((with_reducible apply wpL_cmp (b := false)); rfl; rfl; rfl; (first | rfl | assumption | (simp only [cmpB, decide_eq_true_eq, decide_eq_false_iff_not, beq_iff_eq, bne_iff_ne, ne_eq, beq_eq_false_iff_ne, bne_eq_false_iff_eq, gt_iff_lt, ge_iff_le]; omega) | (simp; omega)); rfl)
                | ((with_reducible apply wpL_cmp); rfl; rfl; rfl; rfl; rfl)
                | ((with_reducible apply wpL_arith); rfl; rfl; rfl; (exact IntWalk.i64_in _ (by (try simp only [arithI]); omega)); rfl)); (try simp only [arithI, Act.put, Act.eval, List.setIfInBounds_toArray, List.set_cons_succ, List.set_cons_zero, Array.getD_eq_getD_getElem?, List.getElem?_toArray, List.getElem?_cons_succ, List.getElem?_cons_zero, Option.getD_some])))
          refine HK3.out _ _ ?_
          clear HK3
          go_wp2_with (first
            | ((first
                | ((with_reducible apply wpL_skip); rfl; skip)
                | ((with_reducible apply wpL_nilCheck); rfl; rfl)
                | ((with_reducible apply wpL_load1 (t := 46) kO46 HH.out); rfl; (first | exact .here | exact .there .here | exact .there (.there .here) | exact .there (.there (.there .here)) | exact .there (.there (.there (.there .here))) | exact .there (.there (.there (.there (.there .here)))) | exact .there (.there (.there (.there (.there (.there .here))))) | exact .there (.there (.there (.there (.there (.there (.there .here))))))); rfl; rfl)
                | ((with_reducible apply wpL_len (t := 46) Try.underlying46); rfl; rfl)
                | ((with_reducible apply wpL_move); rfl; rfl)
                | ((with_reducible apply wpL_assign); rfl; rfl)
                | ((with_reducible apply wpL_pick); rfl; rfl; rfl)
                | ((with_reducible apply wpL_not); rfl; rfl)
                | ((with_reducible apply wpL_cmp (b := true)); rfl; rfl; rfl; (first | rfl | assumption | (simp only [cmpB, decide_eq_true_eq, decide_eq_false_iff_not, beq_iff_eq, bne_iff_ne, ne_eq, beq_eq_false_iff_ne, bne_eq_false_iff_eq, gt_iff_lt, ge_iff_le]; omega) | (simp; omega)); rfl)
                | ((with_reducible apply wpL_cmp (b := false)); rfl; rfl; rfl; (first | rfl | assumption | (simp only [cmpB, decide_eq_true_eq, decide_eq_false_iff_not, beq_iff_eq, bne_iff_ne, ne_eq, beq_eq_false_iff_ne, bne_eq_false_iff_eq, gt_iff_lt, ge_iff_le]; omega) | (simp; omega)); rfl)
                | ((with_reducible apply wpL_cmp); rfl; rfl; rfl; rfl; rfl)
                | ((with_reducible apply wpL_arith); rfl; rfl; rfl; (exact IntWalk.i64_in _ (by (try simp only [arithI]); omega)); rfl)); (try simp only [arithI, Act.put, Act.eval, List.setIfInBounds_toArray, List.set_cons_succ, List.set_cons_zero, Array.getD_eq_getD_getElem?, List.getElem?_toArray, List.getElem?_cons_succ, List.getElem?_cons_zero, Option.getD_some])))
          go_roundw
          case rel => exact ⟨k + 1, by omega, by go_num, HH.out, HJ.out⟩
          case measure => simp [intOf]; omega
        · have HX := hid hx3
          clear HH HJ HR hy hx3
          have HH := hid (Holds.init W3)
          refine ⟨_, rfl, rest_in (noOut (fn := Try.f78)) rfl ?_⟩
          go_wp2_with (first
            | ((first
                | ((with_reducible apply wpL_skip); rfl; skip)
                | ((with_reducible apply wpL_nilCheck); rfl; rfl)
                | ((with_reducible apply wpL_load1 (t := 46) kO46 HH.out); rfl; (first | exact .here | exact .there .here | exact .there (.there .here) | exact .there (.there (.there .here)) | exact .there (.there (.there (.there .here))) | exact .there (.there (.there (.there (.there .here)))) | exact .there (.there (.there (.there (.there (.there .here))))) | exact .there (.there (.there (.there (.there (.there (.there .here))))))); rfl; rfl)
                | ((with_reducible apply wpL_len (t := 46) Try.underlying46); rfl; rfl)
                | ((with_reducible apply wpL_move); rfl; rfl)
                | ((with_reducible apply wpL_assign); rfl; rfl)
                | ((with_reducible apply wpL_pick); rfl; rfl; rfl)
                | ((with_reducible apply wpL_not); rfl; rfl)
                | ((with_reducible apply wpL_cmp (b := true)); rfl; rfl; rfl; (first | rfl | assumption | (simp only [cmpB, decide_eq_true_eq, decide_eq_false_iff_not, beq_iff_eq, bne_iff_ne, ne_eq, beq_eq_false_iff_ne, bne_eq_false_iff_eq, gt_iff_lt, ge_iff_le]; omega) | (simp; omega)); rfl)
                | ((with_reducible apply wpL_cmp (b := false)); rfl; rfl; rfl; (first | rfl | assumption | (simp only [cmpB, decide_eq_true_eq, decide_eq_false_iff_not, beq_iff_eq, bne_iff_ne, ne_eq, beq_eq_false_iff_ne, bne_eq_false_iff_eq, gt_iff_lt, ge_iff_le]; omega) | (simp; omega)); rfl)
                | ((with_reducible apply wpL_cmp); rfl; rfl; rfl; rfl; rfl)
                | ((with_reducible apply wpL_arith); rfl; rfl; rfl; (exact IntWalk.i64_in _ (by (try simp only [arithI]); omega)); rfl)); (try simp only [arithI, Act.put, Act.eval, List.setIfInBounds_toArray, List.set_cons_succ, List.set_cons_zero, Array.getD_eq_getD_getElem?, List.getElem?_toArray, List.getElem?_cons_succ, List.getElem?_cons_zero, Option.getD_some])))
          refine HK5.out _ _ ?_
          clear HK5
          go_wp2_with (first
            | ((first
                | ((with_reducible apply wpL_skip); rfl; skip)
                | ((with_reducible apply wpL_nilCheck); rfl; rfl)
                | ((with_reducible apply wpL_load1 (t := 46) kO46 HH.out); rfl; (first | exact .here | exact .there .here | exact .there (.there .here) | exact .there (.there (.there .here)) | exact .there (.there (.there (.there .here))) | exact .there (.there (.there (.there (.there .here)))) | exact .there (.there (.there (.there (.there (.there .here))))) | exact .there (.there (.there (.there (.there (.there (.there .here))))))); rfl; rfl)
                | ((with_reducible apply wpL_len (t := 46) Try.underlying46); rfl; rfl)
                | ((with_reducible apply wpL_move); rfl; rfl)
                | ((with_reducible apply wpL_assign); rfl; rfl)
                | ((with_reducible apply wpL_pick); rfl; rfl; rfl)
                | ((with_reducible apply wpL_not); rfl; rfl)
                | ((with_reducible apply wpL_cmp (b := true)); rfl; rfl; rfl; (first | rfl | assumption | (simp only [cmpB, decide_eq_true_eq, decide_eq_false_iff_not, beq_iff_eq, bne_iff_ne, ne_eq, beq_eq_false_iff_ne, bne_eq_false_iff_eq, gt_iff_lt, ge_iff_le]; omega) | (simp; omega)); rfl)
                | ((with_reducible apply wpL_cmp (b := false)); rfl; rfl; rfl; (first | rfl | assumption | (simp only [cmpB, decide_eq_true_eq, decide_eq_false_iff_not, beq_iff_eq, bne_iff_ne, ne_eq, beq_eq_false_iff_ne, bne_eq_false_iff_eq, gt_iff_lt, ge_iff_le]; omega) | (simp; omega)); rfl)
                | ((with_reducible apply wpL_cmp); rfl; rfl; rfl; rfl; rfl)
                | ((with_reducible apply wpL_arith); rfl; rfl; rfl; (exact IntWalk.i64_in _ (by (try simp only [arithI]); omega)); rfl)); (try simp only [arithI, Act.put, Act.eval, List.setIfInBounds_toArray, List.set_cons_succ, List.set_cons_zero, Array.getD_eq_getD_getElem?, List.getElem?_toArray, List.getElem?_cons_succ, List.getElem?_cons_zero, Option.getD_some])))
          refine bodyPost_ret (results_none rfl _ _ _) rfl ?_
          exact ⟨⟨_, rfl⟩, .inr HX.out⟩
      · obtain rfl : k = l.length := by omega
        go_wp2_with (first
          | ((first
              | ((with_reducible apply wpL_skip); rfl; skip)
              | ((with_reducible apply wpL_nilCheck); rfl; rfl)
              | ((with_reducible apply wpL_load1 (t := 46) kO46 HH.out); rfl; (first | exact .here | exact .there .here | exact .there (.there .here) | exact .there (.there (.there .here)) | exact .there (.there (.there (.there .here))) | exact .there (.there (.there (.there (.there .here)))) | exact .there (.there (.there (.there (.there (.there .here))))) | exact .there (.there (.there (.there (.there (.there (.there .here))))))); rfl; rfl)
              | ((with_reducible apply wpL_len (t := 46) Try.underlying46); rfl; rfl)
              | ((with_reducible apply wpL_move); rfl; rfl)
              | ((with_reducible apply wpL_assign); rfl; rfl)
              | ((with_reducible apply wpL_pick); rfl; rfl; rfl)
              | ((with_reducible apply wpL_not); rfl; rfl)
              | ((with_reducible apply wpL_cmp (b := true)); rfl; rfl; rfl; (first | rfl | assumption | (simp only [cmpB, decide_eq_true_eq, decide_eq_false_iff_not, beq_iff_eq, bne_iff_ne, ne_eq, beq_eq_false_iff_ne, bne_eq_false_iff_eq, gt_iff_lt, ge_iff_le]; omega) | (simp; omega)); rfl)
              | ((with_reducible apply wpL_cmp (b := false)); rfl; rfl; rfl; (first | rfl | assumption | (simp only [cmpB, decide_eq_true_eq, decide_eq_false_iff_not, beq_iff_eq, bne_iff_ne, ne_eq, beq_eq_false_iff_ne, bne_eq_false_iff_eq, gt_iff_lt, ge_iff_le]; omega) | (simp; omega)); rfl)
              | ((with_reducible apply wpL_cmp); rfl; rfl; rfl; rfl; rfl)
              | ((with_reducible apply wpL_arith); rfl; rfl; rfl; (exact IntWalk.i64_in _ (by (try simp only [arithI]); omega)); rfl)); (try simp only [arithI, Act.put, Act.eval, List.setIfInBounds_toArray, List.set_cons_succ, List.set_cons_zero, Array.getD_eq_getD_getElem?, List.getElem?_toArray, List.getElem?_cons_succ, List.getElem?_cons_zero, Option.getD_some])))
        refine bodyPost_end (results_none rfl _ _ _) rfl ?_
        exact ⟨⟨_, rfl⟩, .inl HJ.out⟩
  · have HE := hid (show (if checkC l.length = 0 then l.length else 0) = 0 by rw [if_neg (by rw [hc]; exact hc0)])
    rw [HE.out]
    clear hc
    go_enter Try.func78, Try.ntmps78
    go_wp2_with (first
      | ((first
          | ((with_reducible apply wpL_skip); rfl; skip)
          | ((with_reducible apply wpL_loadAt (t := 46) (v := .slice ao l.length cap) kO46); (have hc_ := (HB.out _ _ HJ.out).1; exact hc_); rfl; rfl)
          | (go_at_call 67; (with_reducible refine (check_any _ _ l (HB.out _ _ HJ.out).2 hn).mono ?_); rw [HC.out]; rintro e_ w2_ ⟨rfl, hb_⟩; (have hq_ := HH.out.grow hb_); (have hj_ := HG.out _ _ _ HJ.out hb_); clear HH HJ; have HH := hid hq_; have HJ := hid hj_; clear hq_ hj_ hb_)
          | ((with_reducible apply wpL_nilCheck); rfl; rfl)
          | ((with_reducible apply wpL_load1 (t := 46) kO46 HH.out); rfl; (first | exact .here | exact .there .here | exact .there (.there .here) | exact .there (.there (.there .here)) | exact .there (.there (.there (.there .here))) | exact .there (.there (.there (.there (.there .here)))) | exact .there (.there (.there (.there (.there (.there .here))))) | exact .there (.there (.there (.there (.there (.there (.there .here))))))); rfl; rfl)
          | ((with_reducible apply wpL_len (t := 46) Try.underlying46); rfl; rfl)
          | ((with_reducible apply wpL_move); rfl; rfl)
          | ((with_reducible apply wpL_assign); rfl; rfl)
          | ((with_reducible apply wpL_pick); rfl; rfl; rfl)
          | ((with_reducible apply wpL_not); rfl; rfl)
          | ((with_reducible apply wpL_cmp (b := true)); rfl; rfl; rfl; (first | rfl | assumption | (simp only [cmpB, decide_eq_true_eq, decide_eq_false_iff_not, beq_iff_eq, bne_iff_ne, ne_eq, beq_eq_false_iff_ne, bne_eq_false_iff_eq, gt_iff_lt, ge_iff_le]; omega) | (simp; omega)); rfl)
          | ((with_reducible apply wpL_cmp (b := false)); rfl; rfl; rfl; (first | rfl | assumption | (simp only [cmpB, decide_eq_true_eq, decide_eq_false_iff_not, beq_iff_eq, bne_iff_ne, ne_eq, beq_eq_false_iff_ne, bne_eq_false_iff_eq, gt_iff_lt, ge_iff_le]; omega) | (simp; omega)); rfl)
          | ((with_reducible apply wpL_cmp); rfl; rfl; rfl; rfl; rfl)
          | ((with_reducible apply wpL_arith); rfl; rfl; rfl; (exact IntWalk.i64_in _ (by (try simp only [arithI]); omega)); rfl)); (try simp only [arithI, Act.put, Act.eval, List.setIfInBounds_toArray, List.set_cons_succ, List.set_cons_zero, Array.getD_eq_getD_getElem?, List.getElem?_toArray, List.getElem?_cons_succ, List.getElem?_cons_zero, Option.getD_some])))
    refine bodyPost_ret (results_none rfl _ _ _) rfl ?_
    exact ⟨⟨_, rfl⟩, .inl HJ.out⟩
set_option maxRecDepth 100000 in
set_option maxHeartbeats 1000000 in
theorem paths_any (w : World) (ao : Option Addr) (n cap : Nat) : Calls Try.prog 56 #[.slice ao n cap] w fun e w' => ∃ B, e = .returned (.func (.func 78) #[] #[.pointer (some ⟨B, 0, none⟩)]) ∧ ∀ w0 S bs rows, Holds w0 S bs rows w → Holds w0 S ((B, .cells #[.slice ao n cap] 46) :: bs) rows w' := by
  go_enter Try.func56, Try.ntmps56
  go_wp2
  go_ret
  exact ⟨_, rfl, fun w0 S bs rows h => h.alloc _⟩
end Go.Proofs.Ytgkfopodhikckaa

