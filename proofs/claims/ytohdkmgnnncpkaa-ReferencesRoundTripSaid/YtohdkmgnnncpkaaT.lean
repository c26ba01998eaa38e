/- A region that draws its order, of which the last operations come last whatever is drawn. Over any program; no condition. -/
import Derived.Test.YtohdkmgnnncpkaaE
namespace Go.Proofs.Ytohdkmgnnncpkaa
open Go.RowKit
section
variable {P : Program}
/-- Operation i waits for operation j. -/
def waits (ops : Array Oper) (i j : Nat) : Bool := ((ops[i]?).map fun (o : Oper) => o.after.toList.any fun e => Region.binds .any e && decide (e.on = j)).getD false
/-- Edges and guards lead back; behind each of the first k operations there is one up to k that waits for it; behind k each waits for the one before. -/
def tailB (ops : Array Oper) (k : Nat) : Bool :=
  decide (k ≤ ops.size) &&
  ((List.range ops.size).all fun i => ((ops[i]?).map fun (o : Oper) => (o.after.toList.all fun e => !Region.binds .any e || decide (e.on < i)) && (match o.guard with | some (g, _) => decide (g < i) | none => true)).getD true) &&
  ((List.range k).all fun j => (List.range (k + 1)).any fun i => decide (j < i) && waits ops i j) &&
  ((List.range ops.size).all fun i => decide (i ≤ k) || waits ops i (i - 1))
/-- The edges that bind. -/
def backB (ops : Array Oper) : Bool := (List.range ops.size).all fun i => ((ops[i]?).map fun (o : Oper) => o.after.toList.all fun e => !Region.binds .any e || decide (e.on < i)).getD true
def Qt (P : Program) (ops : Array Oper) (Q : Exit → Act → World → Prop) (tl : List Oper) : Exit → Act → World → Prop
  | .normal, a, w => wpList P ops Q tl a w
  | x, a, w => Q x a w
theorem waits_dep {ops : Array Oper} {i j : Nat} (h : waits ops i j = true) {o : Oper} (ho : ops[i]? = some o) {listed : Array Bool} (hd : ∀ e ∈ o.after, Region.binds .any e = true → listed.getD e.on false = true) : listed.getD j false = true := by
  unfold waits at h
  rw [ho] at h
  simp only [Option.map_some, Option.getD_some, List.any_eq_true, Bool.and_eq_true, decide_eq_true_eq] at h
  obtain ⟨e, he, hb, rfl⟩ := h
  exact hd e (Array.mem_toList_iff.1 he) hb
theorem wp_Qt {ops : Array Oper} {Q : Exit → Act → World → Prop} {tl : List Oper} {o : Oper} {a : Act} {w : World} {K : Act → World → Prop} (h : o.wp P a w K (Qt P ops Q tl)) : o.wp P a w K Q := by
  unfold Oper.wp at *
  generalize (execOp a.eval o).run P w = r at *
  cases r with
  | ok n w' =>
    cases n <;> simp only [Oper.upon] at h ⊢ <;> exact h
  | halt x w' => cases x <;> simp only [Oper.upon] at h ⊢ <;> exact h
theorem getD_lt {l : Array Bool} {i : Nat} (h : l.getD i true = false) : l.getD i false = false := by
  rw [Array.getD_eq_getD_getElem?] at h ⊢
  cases hh : l[i]? with
  | none => rfl
  | some b => rw [hh] at h; exact h
/-- The tail, one after the other. -/
theorem wpAny_tail {ops : Array Oper} {Q : Exit → Act → World → Prop} {k : Nat} (hB : backB ops = true) (hT : ∀ i, k < i → i < ops.size → waits ops i (i - 1) = true) :
    ∀ (tl : List Oper) (i : Nat) (fuel : Nat) (listed : Array Bool) (a : Act) (w : World), k ≤ i → (∀ j, tl[j]? = ops[i + j]?) → i + tl.length = ops.size → tl.length ≤ fuel → listed.size = ops.size → (∀ j, listed.getD j false = decide (j < i ∧ j < ops.size)) →
      wpList P ops Q tl a w → wpAny P .any ops Q fuel listed a w
  | [], i, fuel, listed, a, w, _, _, hlen, _, hsz, hl, h => by
    have hr : Region.ready .any ops listed = [] := by
      rw [List.eq_nil_iff_forall_not_mem]
      intro j hj
      obtain ⟨h1, o, ho, _⟩ := mem_ready.1 hj
      have hlt : j < ops.size := (Array.getElem?_eq_some_iff.1 ho).1
      have h2 := hl j
      rw [getD_lt h1] at h2
      simp only [List.length_nil] at hlen
      have := (decide_eq_false_iff_not.1 h2.symm)
      omega
    cases fuel with
    | zero => exact ⟨hr, h⟩
    | succ fuel => exact ⟨fun _ => h, fun j hj => by rw [hr] at hj; cases hj⟩
  | o :: tl, i, 0, listed, a, w, _, _, _, hf, _, _, _ => by simp at hf
  | o :: tl, i, fuel + 1, listed, a, w, hk, htl, hlen, hf, hsz, hl, h => by
    have hi : i < ops.size := by simp only [List.length_cons] at hlen; omega
    have h0 : ops[i]? = some o := by simpa using (htl 0).symm
    have hrdy : i ∈ Region.ready .any ops listed := by
      refine mem_ready.2 ⟨?_, o, h0, fun e he hb => ?_⟩
      · have := hl i
        rw [Array.getD_eq_getD_getElem?] at this ⊢
        have hi' : i < listed.size := by omega
        simp only [Array.getElem?_eq_getElem hi', Option.getD_some] at this ⊢
        rw [this]; simp
      · have h3 := List.all_eq_true.1 hB i (by simpa using hi)
        rw [h0] at h3
        simp only [Option.map_some, Option.getD_some, List.all_eq_true, Bool.or_eq_true, Bool.not_eq_true', decide_eq_true_eq] at h3
        rcases h3 e (Array.mem_toList_iff.2 he) with h4 | h4
        · rw [hb] at h4; cases h4
        · rw [hl]; simp; omega
    refine ⟨fun hr => (by rw [hr] at hrdy; cases hrdy), fun j hj => ?_⟩
    obtain ⟨h1, oj, hoj, hd⟩ := mem_ready.1 hj
    have hjlt : j < ops.size := (Array.getElem?_eq_some_iff.1 hoj).1
    have hji : j = i := by
      have h2 := hl j
      rw [getD_lt h1] at h2
      have h3 := (decide_eq_false_iff_not.1 h2.symm)
      by_cases e : j = i
      · exact e
      · exfalso
        have h4 := waits_dep (hT j (by omega) hjlt) hoj hd
        rw [hl] at h4
        simp at h4
        omega
    subst hji
    rw [h0] at hoj
    cases hoj
    have next : ∀ a' w', wpList P ops Q tl a' w' → wpAny P .any ops Q fuel (listed.setIfInBounds j true) a' w' := by
      intro a' w' h'
      refine wpAny_tail hB hT tl (j + 1) fuel _ a' w' (by omega) (fun m => ?_) (by simp only [List.length_cons] at hlen; omega) (by simpa using hf) (by simpa using hsz) (fun m => ?_) h'
      · have := htl (m + 1)
        rw [show j + 1 + m = j + (m + 1) by omega, ← this, List.getElem?_cons_succ]
      · by_cases hm : j = m
        · subst hm
          rw [getD_set_self (by omega)]
          simp; omega
        · rw [getD_set_ne' hm, hl]
          simp only [decide_eq_decide]
          omega
    unfold wpOp
    simp only [h0]
    simp only [wpList] at h
    split
    · rename_i hw
      rw [if_pos hw] at h
      exact h.imp (Oper.wp_mono next) id
    · rename_i hw
      rw [if_neg hw] at h
      exact next _ _ h
/-- First the prefix, in whatever order; then the tail. -/
theorem wpAny_prefix {l1 l2 : List Oper} {Q : Exit → Act → World → Prop} (hT : tailB (l1 ++ l2).toArray l1.length = true) : ∀ (f : Nat) (lk listed : Array Bool) (a : Act) (w : World),
    lk.size = l1.length → listed.size = (l1 ++ l2).length → (∀ j, listed.getD j false = lk.getD j false) →
    (∀ i (o : Oper), l1[i]? = some o → lk.getD i false = true → ∀ e ∈ o.after, Region.binds .any e = true → lk.getD e.on false = true) →
    wpAny P .any l1.toArray (Qt P (l1 ++ l2).toArray Q l2) f lk a w → wpAny P .any (l1 ++ l2).toArray Q (f + l2.length) listed a w := by
  have hT0 := hT
  simp only [tailB, Bool.and_eq_true, decide_eq_true_eq] at hT0
  obtain ⟨⟨⟨hk, hback⟩, hcov⟩, htail⟩ := hT0
  have hbk : ∀ i (o : Oper), (l1 ++ l2)[i]? = some o → (∀ e ∈ o.after, Region.binds .any e = true → e.on < i) ∧ (∀ g b, o.guard = some (g, b) → g < i) := by
    intro i o ho
    have hi : i < (l1 ++ l2).length := (List.getElem?_eq_some_iff.1 ho).1
    have h3 := List.all_eq_true.1 hback i (by simpa using hi)
    have ho' : (l1 ++ l2).toArray[i]? = some o := by simpa using ho
    rw [ho'] at h3
    simp only [Option.map_some, Option.getD_some, Bool.and_eq_true, List.all_eq_true, decide_eq_true_eq, Bool.or_eq_true, Bool.not_eq_true'] at h3
    refine ⟨fun e he hb => (h3.1 e (Array.mem_toList_iff.2 he)).resolve_left (by rw [hb]; decide), fun g b hg => ?_⟩
    have := h3.2
    rw [hg] at this
    simpa using this
  have hB : backB (l1 ++ l2).toArray = true := by
    refine List.all_eq_true.2 fun i hi => ?_
    cases ho : (l1 ++ l2).toArray[i]? with
    | none => rfl
    | some o =>
      simp only [Option.map_some, Option.getD_some, List.all_eq_true]
      intro e he
      cases hb : Region.binds .any e with
      | false => rfl
      | true =>
        have := (hbk i o (by simpa using ho)).1 e (Array.mem_toList_iff.1 he) hb
        simp [this]
  have hTl : ∀ i, l1.length < i → i < (l1 ++ l2).toArray.size → waits (l1 ++ l2).toArray i (i - 1) = true := by
    intro i h1 h2
    have h3 := List.all_eq_true.1 htail i (by simpa using h2)
    simp only [Bool.or_eq_true, decide_eq_true_eq] at h3
    exact h3.resolve_left (by omega)
  -- all of the prefix is listed where nothing of it is ready
  have hall : ∀ lk : Array Bool, lk.size = l1.length → Region.ready .any l1.toArray lk = [] → ∀ i, i < l1.length → lk.getD i false = true := by
    intro lk hsz hr i
    induction i using Nat.strongRecOn with
    | ind i ih =>
      intro hi
      by_cases h : lk.getD i false = true
      · exact h
      · exfalso
        have ho : l1[i]? = some l1[i] := by simp [hi]
        have hm : i ∈ Region.ready .any l1.toArray lk := by
          refine mem_ready.2 ⟨?_, l1[i], by rw [List.getElem?_toArray]; exact ho, fun e he hb => ?_⟩
          · have hi' : i < lk.size := by omega
            rw [Array.getD_eq_getD_getElem?, Array.getElem?_eq_getElem hi', Option.getD_some] at h ⊢
            simpa using h
          · have := (hbk i l1[i] (by rw [List.getElem?_append_left hi]; exact ho)).1 e he hb
            exact ih e.on this (by omega)
        rw [hr] at hm
        cases hm
  have fin : ∀ (lk listed : Array Bool) (a : Act) (w : World) (f : Nat), lk.size = l1.length → listed.size = (l1 ++ l2).length → (∀ j, listed.getD j false = lk.getD j false) → Region.ready .any l1.toArray lk = [] →
      wpList P (l1 ++ l2).toArray Q l2 a w → wpAny P .any (l1 ++ l2).toArray Q (f + l2.length) listed a w := by
    intro lk listed a w f h1 h2 h3 hr h
    refine wpAny_tail hB hTl l2 l1.length _ listed a w (Nat.le_refl _) (fun j => ?_) (by simp) (by omega) (by simpa using h2) (fun j => ?_) h
    · rw [List.getElem?_toArray, List.getElem?_append_right (by omega)]
      congr 1; omega
    · rw [h3]
      by_cases hj : j < l1.length
      · rw [hall lk h1 hr j hj]; simp; omega
      · rw [Array.getD_eq_getD_getElem?, Array.getElem?_eq_none (by omega)]
        simp; omega
  intro f
  induction f with
  | zero =>
    intro lk listed a w h1 h2 h3 _ h
    exact fin lk listed a w 0 h1 h2 h3 h.1 h.2
  | succ f ih =>
    intro lk listed a w h1 h2 h3 hcl h
    by_cases hr : Region.ready .any l1.toArray lk = []
    · exact fin lk listed a w (f + 1) h1 h2 h3 hr (h.1 hr)
    · obtain ⟨m, hm⟩ := List.exists_mem_of_ne_nil _ hr
      have hmr : ∀ j, j ∈ Region.ready .any l1.toArray lk → j < l1.length ∧ lk.getD j false = false := by
        intro j hj
        obtain ⟨g1, o, ho, _⟩ := mem_ready.1 hj
        exact ⟨by simpa using (Array.getElem?_eq_some_iff.1 ho).1, getD_lt g1⟩
      rw [show f + 1 + l2.length = (f + l2.length) + 1 by omega]
      have hin : m ∈ Region.ready .any (l1 ++ l2).toArray listed := by
        obtain ⟨g1, o, ho, hd⟩ := mem_ready.1 hm
        have hlt := (hmr m hm).1
        refine mem_ready.2 ⟨?_, o, ?_, fun e he hb => by rw [h3]; exact hd e he hb⟩
        · have e1 := h3 m
          rw [getD_lt g1] at e1
          have hml : m < listed.size := by rw [h2, List.length_append]; omega
          rw [Array.getD_eq_getD_getElem?, Array.getElem?_eq_getElem hml] at e1 ⊢
          exact e1
        · rw [List.getElem?_toArray] at ho ⊢
          rw [List.getElem?_append_left hlt]; exact ho
      refine ⟨fun hr0 => (by rw [hr0] at hin; cases hin), fun i hi => ?_⟩
      obtain ⟨g1, o, ho, hd⟩ := mem_ready.1 hi
      have hun : lk.getD i false = false := by rw [← h3]; exact getD_lt g1
      have hilt : i < l1.length := by
        by_cases hik : i < l1.length
        · exact hik
        · exfalso
          by_cases hik2 : i = l1.length
          · -- every operation of the prefix is listed
            have : ∀ d j, l1.length - j = d → j < l1.length → lk.getD j false = true := by
              intro d
              induction d using Nat.strongRecOn with
              | ind d ihd =>
                intro j hd' hj
                have h5 := List.all_eq_true.1 hcov j (by simpa using hj)
                obtain ⟨i', hi', h6⟩ := List.any_eq_true.1 h5
                simp only [Bool.and_eq_true, decide_eq_true_eq] at h6
                have hi2 : i' < l1.length + 1 := by simpa using hi'
                rcases Nat.lt_or_ge i' l1.length with h7 | h7
                · have h8 := ihd (l1.length - i') (by omega) i' rfl h7
                  have ho' : l1[i']? = some l1[i'] := by simp [h7]
                  exact waits_dep h6.2 (o := l1[i']) (by rw [List.getElem?_toArray, List.getElem?_append_left h7]; exact ho') (fun e he hb => hcl i' _ ho' h8 e he hb)
                · have e7 : i' = i := by omega
                  subst e7
                  rw [← h3]
                  exact waits_dep h6.2 ho hd
            have := this _ m rfl (hmr m hm).1
            rw [(hmr m hm).2] at this
            cases this
          · have hlt : i < (l1 ++ l2).toArray.size := (Array.getElem?_eq_some_iff.1 ho).1
            have h8 := waits_dep (hTl i (by omega) hlt) ho hd
            rw [h3, Array.getD_eq_getD_getElem?, Array.getElem?_eq_none (by omega)] at h8
            simp at h8
      have ho1 : l1[i]? = some o := by
        rw [List.getElem?_toArray, List.getElem?_append_left hilt] at ho; exact ho
      have hrk : i ∈ Region.ready .any l1.toArray lk := by
        refine mem_ready.2 ⟨?_, o, by simpa using ho1, fun e he hb => by rw [← h3]; exact hd e he hb⟩
        have hil : i < lk.size := by omega
        rw [Array.getD_eq_getD_getElem?, Array.getElem?_eq_getElem hil] at hun ⊢
        exact hun
      have hop := h.2 i hrk
      have next : ∀ a' w', wpAny P .any l1.toArray (Qt P (l1 ++ l2).toArray Q l2) f (lk.setIfInBounds i true) a' w' → wpAny P .any (l1 ++ l2).toArray Q (f + l2.length) (listed.setIfInBounds i true) a' w' := by
        intro a' w' h'
        have hil : i < lk.size := by omega
        have hil2 : i < listed.size := by rw [h2, List.length_append]; omega
        refine ih _ _ a' w' (by simpa using h1) (by simpa using h2) (fun j => ?_) (fun j oj hoj hj e he hb => ?_) h'
        · by_cases hij : i = j
          · subst hij; rw [getD_set_self hil, getD_set_self hil2]
          · rw [getD_set_ne' hij, getD_set_ne' hij]; exact h3 j
        · have hdep : lk.getD e.on false = true := by
            by_cases hij : i = j
            · subst hij
              rw [ho1] at hoj; cases hoj
              rw [← h3]; exact hd e he hb
            · rw [getD_set_ne' hij] at hj
              exact hcl j oj hoj hj e he hb
          by_cases hie : i = e.on
          · rw [← hie]; exact getD_set_self hil _
          · rw [getD_set_ne' hie]; exact hdep
      have hwant : Region.wanted o (yielded l1.toArray a.tmps) = Region.wanted o (yielded (l1 ++ l2).toArray a.tmps) := by
        unfold Region.wanted
        cases hg : o.guard with
        | none => rfl
        | some gb =>
          obtain ⟨g, b⟩ := gb
          have hgi := (hbk i o (by simpa using ho)).2 g b hg
          have : yielded l1.toArray a.tmps g = yielded (l1 ++ l2).toArray a.tmps g := by
            unfold yielded
            rw [List.getElem?_toArray, List.getElem?_toArray, List.getElem?_append_left (by omega)]
          simp only [this]
      unfold wpOp at hop ⊢
      rw [show (l1.toArray)[i]? = some o by simpa using ho1] at hop
      simp only [ho] at hop ⊢
      rw [hwant] at hop
      split
      · rename_i hw
        rw [if_pos hw] at hop
        exact hop.imp (fun h' => Oper.wp_mono next (wp_Qt h')) (fun ⟨h5, a', w', h6⟩ => ⟨h5, a', w', h6⟩)
      · rename_i hw
        rw [if_neg hw] at hop
        exact next _ _ hop
theorem wp_region_split {id : Nat} {l1 l2 : List Oper} {Q : Exit → Act → World → Prop} {a : Act} {w : World} (hm : P.follows .mixedOrders = true) (hT : tailB (l1 ++ l2).toArray l1.length = true)
    (h : wpAny P .any l1.toArray (Qt P (l1 ++ l2).toArray Q l2) l1.length (Array.replicate l1.length false) a w.drew) : (Code.region id (l1 ++ l2).toArray true).wp P Q a w := by
  refine wp_region_any hm ?_
  have := wpAny_prefix (P := P) (Q := Q) hT l1.length (Array.replicate l1.length false) (Array.replicate (l1 ++ l2).length false) a w.drew (by simp) (by simp) (fun j => by
    rw [Array.getD_eq_getD_getElem?, Array.getD_eq_getD_getElem?, Array.getElem?_replicate, Array.getElem?_replicate]
    split <;> split <;> rfl) (fun i o _ hi => by
    rw [Array.getD_eq_getD_getElem?, Array.getElem?_replicate] at hi
    split at hi <;> cases hi) h
  have e : (l1 ++ l2).toArray.size = l1.length + l2.length := by simp
  rw [e]
  have e2 : (l1 ++ l2).length = l1.length + l2.length := by simp
  rw [e2] at this
  exact this
section
variable {w0 w : World} {S : List Nat} {bs : List (Nat × Obj)} {rows : List Row} {a : Act} {Q : Exit → Act → World → Prop}
theorem wp_region_tailQ {id : Nat} {l : List Oper} (k : Nat) (hm : P.follows .mixedOrders = true) (hT : tailB (l.take k ++ l.drop k).toArray (l.take k).length = true) (hB : Region.lexB .any (l.take k).toArray = true) (hH : Holds w0 S bs rows w)
    (h : wpQuiet P (l.take k).toArray (fun w' => Holds w0 S bs rows w') (fun a' => ∀ w', Holds w0 S bs rows w' → wpList P l.toArray Q (l.drop k) a' w') (l.take k) a) : (Code.region id l.toArray true).wp P Q a w := by
  have h1 : (Code.region id (l.take k ++ l.drop k).toArray true).wp P Q a w := by
    refine wp_region_split hm hT ?_
    simp only [Region.lexB, Bool.and_eq_true] at hB
    refine wpAny_of_quiet (C := fun w' => Holds w0 S bs rows w') (Q := fun a' => ∀ w', Holds w0 S bs rows w' → wpList P l.toArray Q (l.drop k) a' w') (fun a' w' hw' h => ?_) _ _ _ _ hH.drew ?_
    · show wpList P (l.take k ++ l.drop k).toArray Q (l.drop k) a' w'
      rw [List.take_append_drop]
      exact h w' hw'
    · have := wpAnyQ_lex (P := P) (C := fun w' => Holds w0 S bs rows w') (md := .any) hB.1 (l.take k) 0 (Array.replicate (l.take k).toArray.size false) a (by simp) (by simpa using hB.2) h
      rw [show (l.take k).toArray.size = (l.take k).length by simp] at this
      exact this
  rwa [List.take_append_drop] at h1
theorem wp_region_tailR {id : Nat} {l : List Oper} (k : Nat) (L : List Asr) (hH : Holds w0 S bs rows w) (hm : P.follows .mixedOrders = true) (hT : tailB (l.take k ++ l.drop k).toArray (l.take k).length = true) (hsh : shapeD a.tmps.size (l.take k).toArray = true) (hlen : L.length = (l.take k).length)
    (hstep : eachD (ShowD P (l.take k) a (fun w' => Holds w0 S bs rows w' ∧ Below w.heap.size w w') L) 0 (l.take k))
    (hend : ∀ w', Holds w0 S bs rows w' → Below w.heap.size w w' → endD w' L fun vs => wpList P l.toArray Q (l.drop k) (putsD a (l.take k) vs) w') : (Code.region id l.toArray true).wp P Q a w := by
  have h1 : (Code.region id (l.take k ++ l.drop k).toArray true).wp P Q a w := by
    refine wp_region_split hm hT ?_
    have := wpAny_R (P := P) (Q := Qt P (l.take k ++ l.drop k).toArray Q (l.drop k)) L hH hsh hlen hstep (fun w' h1 h2 => by
      have h3 := hend w' h1 h2
      have e : ∀ a' w', Qt P (l.take k ++ l.drop k).toArray Q (l.drop k) .normal a' w' = wpList P l.toArray Q (l.drop k) a' w' := by
        intro a' w'
        show wpList P (l.take k ++ l.drop k).toArray Q (l.drop k) a' w' = _
        rw [List.take_append_drop]
      simpa only [e] using h3)
    rw [show (l.take k).toArray.size = (l.take k).length by simp] at this
    exact this
  rwa [List.take_append_drop] at h1
end
end
end Go.Proofs.Ytohdkmgnnncpkaa
