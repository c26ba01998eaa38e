/- Collision of merkle. Condition: at most 10^9 nodes. -/
import Derived.Test.YtgkfopodhikckaaQ3844033
import Derived.Deep.Strs
set_option linter.unusedSimpArgs false
set_option linter.unusedVariables false
/- A region that draws its order and that writes the call's own variables: what is held hangs on what is listed and on the slots. Over any program; no condition. -/
namespace Go.Proofs.Ytgkfopodhikckaa
open Go.RowKit
/-- One more is listed. -/
def upd (l : Nat → Bool) (i : Nat) : Nat → Bool := fun j => if j = i then true else l j
/-- A slot is written. -/
def updS (s : Nat → Value) (d : Nat) (v : Value) : Nat → Value := fun t => if t = d then v else s t
def stepS (o : Oper) (s : Nat → Value) (v : Value) : Nat → Value := match o.dst with | some d => updS s d v | none => s
/-- The slots. -/
def slF (a : Act) : Nat → Value := fun t => a.tmps.getD t undef
theorem slF_put {a : Act} {o : Oper} {v : Value} (h : ∀ d, o.dst = some d → d < a.tmps.size) : slF (a.put o.dst v) = stepS o (slF a) v := by
  funext t
  unfold slF stepS
  cases hd : o.dst with
  | none => rfl
  | some d =>
    simp only [updS]
    by_cases ht : t = d
    · subst ht; rw [if_pos rfl]; exact getD_put_self (h _ hd)
    · rw [if_neg ht]; exact getD_put_ne (Ne.symm ht)
def lsF (li : Array Bool) : Nat → Bool := fun i => li.getD i true
theorem lsF_set {li : Array Bool} {i : Nat} (h : i < li.size) : lsF (li.setIfInBounds i true) = upd (lsF li) i := by
  funext j
  unfold lsF upd
  by_cases hj : j = i
  · subst hj; rw [if_pos rfl]; exact getD_set_self h true
  · rw [if_neg hj]; exact getD_set_ne' (Ne.symm hj) true
/-- What is listed is closed under the edges that bind. -/
def closedF (ops : Array Oper) (l : Nat → Bool) : Prop := ∀ i o, ops[i]? = some o → l i = true → ∀ e ∈ o.after, Region.binds .any e = true → l e.on = true
def SatF (ops : Array Oper) (V : Nat → Value → Prop) (a : Act) (i : Nat) : Prop := ∀ o, ops[i]? = some o → V i (match o.dst with | some d => a.tmps.getD d undef | none => undef)
section
variable {P : Program} {w0 w : World} {S : List Nat} {a0 : Act} {Q : Exit → Act → World → Prop} {ops : Array Oper}
structure InvF (ops : Array Oper) (a0 : Act) (J : (Nat → Bool) → (Nat → Value) → World → Prop) (V : Nat → Value → Prop) (li : Array Bool) (a : Act) (w : World) : Prop where
  inv : J (lsF li) (slF a) w
  cl : closedF ops (lsF li)
  def_ : a.defers = a0.defers
  size : a.tmps.size = a0.tmps.size
  fr : ∀ t, (∀ i o, ops[i]? = some o → li.getD i false = true → o.dst ≠ some t) → a.tmps.getD t undef = a0.tmps.getD t undef
  sat : ∀ i, li.getD i false = true → SatF ops V a i
theorem InvF.frD {J : (Nat → Bool) → (Nat → Value) → World → Prop} {V : Nat → Value → Prop} {li : Array Bool} {a : Act} (h : InvF ops a0 J V li a w) : FrD ops a0 a :=
  ⟨h.def_, h.size, fun t ht => h.fr t fun i o ho _ => ht i o ho⟩
theorem wpAny_F {J : (Nat → Bool) → (Nat → Value) → World → Prop} {V : Nat → Value → Prop} (hsh : shapeD a0.tmps.size ops = true)
    (hstep : ∀ i o, ops[i]? = some o → ∀ l a w, closedF ops l → l i = false → J l (slF a) w → FrD ops a0 a → (∀ e ∈ o.after, Region.binds .any e = true → l e.on = true ∧ SatF ops V a e.on) →
      if Region.wanted o (yielded ops a.tmps) then OpOK P o a w (fun v w' => J (upd l i) (stepS o (slF a) v) w' ∧ V i (slotD o v)) else J (upd l i) (stepS o (slF a) undef) w ∧ V i undef)
    (hend : ∀ l a w, (∀ i, l i = true) → J l (slF a) w → FrD ops a0 a → (∀ i, i < ops.size → SatF ops V a i) → Q .normal a w) :
    ∀ (fuel : Nat) (li : Array Bool) (a : Act) (w : World), li.size = ops.size → li.toList.count false ≤ fuel → InvF ops a0 J V li a w → wpAny P .any ops Q fuel li a w := by
  have hall : ∀ (li : Array Bool), li.size = ops.size → Region.ready .any ops li = [] → ∀ i, i < ops.size → li.getD i false = true := by
    intro li hsz hr i
    induction i using Nat.strongRecOn with
    | ind i ih =>
      intro hi
      by_cases h : li.getD i false = true
      · exact h
      · exfalso
        have hm : i ∈ Region.ready .any ops li := by
          refine mem_ready.2 ⟨?_, ops[i], by simp [hi], fun e he hb => ?_⟩
          · simp [hsz, hi] at h ⊢; exact h
          · have := shapeD_back hsh (i := i) (o := ops[i]) (by simp [hi]) e he hb
            exact ih e.on this (by omega)
        rw [hr] at hm
        cases hm
  have htrue : ∀ (li : Array Bool), li.size = ops.size → (∀ i, i < ops.size → li.getD i false = true) → ∀ i, lsF li i = true := by
    intro li hsz h i
    unfold lsF
    by_cases hi : i < ops.size
    · have := h i hi
      have hi' : i < li.size := by omega
      simpa [hi'] using this
    · have hi' : ¬ i < li.size := by omega
      simp [hi']
  intro fuel
  induction fuel with
  | zero =>
    intro li a w hsz hc hinv
    have hnone : ∀ i, i < ops.size → li.getD i false = true := by
      intro i hi
      have hi' : i < li.size := by omega
      have hb : li[i] ≠ false := by
        intro e
        have : false ∈ li.toList := by rw [← e]; simp
        have := List.count_pos_iff.2 this
        omega
      simp [hi', hb]
    refine ⟨?_, hend _ a w (htrue li hsz hnone) hinv.inv hinv.frD fun i hi => hinv.sat i (hnone i hi)⟩
    rw [List.eq_nil_iff_forall_not_mem]
    intro j hj
    obtain ⟨h1, o, ho, _⟩ := mem_ready.1 hj
    have hlt : j < ops.size := (Array.getElem?_eq_some_iff.1 ho).1
    have h2 := hnone j hlt
    have hj' : j < li.size := by omega
    simp [hj'] at h1 h2
    rw [h1] at h2
    cases h2
  | succ fuel ih =>
    intro li a w hsz hc hinv
    refine ⟨fun hr => hend _ a w (htrue li hsz (hall li hsz hr)) hinv.inv hinv.frD fun i hi => hinv.sat i (hall li hsz hr i hi), fun i hi => ?_⟩
    obtain ⟨h1, o, ho, hdeps⟩ := mem_ready.1 hi
    have hlt : i < ops.size := (Array.getElem?_eq_some_iff.1 ho).1
    have hlt' : i < li.size := by omega
    have hfalse : li[i] = false := by simpa [hlt'] using h1
    have hdt : ∀ e ∈ o.after, Region.binds .any e = true → lsF li e.on = true := by
      intro e he hb
      have h3 := hdeps e he hb
      have h4 : e.on < i := shapeD_back hsh ho e he hb
      have h5 : e.on < li.size := by omega
      unfold lsF
      simpa [h5] using h3
    have hs := hstep i o ho (lsF li) a w hinv.cl (by unfold lsF; simpa [hlt'] using hfalse) hinv.inv hinv.frD fun e he hb => ⟨hdt e he hb, hinv.sat e.on (hdeps e he hb)⟩
    have hcount : (li.setIfInBounds i true).toList.count false ≤ fuel := by
      rw [Array.toList_setIfInBounds, List.count_set (by simpa using hlt')]
      have : false ∈ li.toList := by rw [← hfalse]; simp
      have := List.count_pos_iff.2 this
      have e1 : li.toList[i]'(by simpa using hlt') = false := by simpa using hfalse
      rw [e1]
      have e2 : ((true : Bool) == false) = false := rfl
      simp only [beq_self_eq_true, if_true, e2, Bool.false_eq_true, if_false]
      omega
    have hdl : ∀ d, o.dst = some d → d < a.tmps.size := fun d hd => by rw [hinv.size]; exact shapeD_lt hsh ho hd
    have next : ∀ v w', J (upd (lsF li) i) (stepS o (slF a) v) w' → V i (slotD o v) → InvF ops a0 J V (li.setIfInBounds i true) (a.put o.dst v) w' := by
      intro v w' hJ hA
      refine ⟨by rw [lsF_set hlt', slF_put hdl]; exact hJ, ?_, by rw [defers_put]; exact hinv.def_, by rw [size_put]; exact hinv.size, ?_, ?_⟩
      · rw [lsF_set hlt']
        intro j oj hj hlj e he hb
        unfold upd at hlj ⊢
        by_cases hji : j = i
        · subst hji; rw [ho] at hj; cases hj
          split
          · rfl
          · exact hdt e he hb
        · rw [if_neg hji] at hlj
          split
          · rfl
          · exact hinv.cl j oj hj hlj e he hb
      · intro t ht
        have hne : o.dst ≠ some t := ht i o ho (getD_set_self hlt' false)
        have e1 : (a.put o.dst v).tmps.getD t undef = a.tmps.getD t undef := by
          cases hd : o.dst with
          | none => rfl
          | some d => exact getD_put_ne (by intro e; exact hne (by rw [hd, e]))
        rw [e1]
        exact hinv.fr t fun j oj hj hlj => by
          by_cases hij : i = j
          · subst hij; rw [ho] at hj; cases hj; exact hne
          · exact ht j oj hj (by rw [getD_set_ne' hij]; exact hlj)
      · intro j hj
        by_cases hij : i = j
        · subst hij
          intro oj hoj
          rw [ho] at hoj; cases hoj
          unfold slotD at hA
          cases hd : o.dst with
          | none => rw [hd] at hA; exact hA
          | some d =>
            simp only [getD_put_self (hdl d hd)]
            rw [hd] at hA
            exact hA
        · rw [getD_set_ne' hij] at hj
          intro oj hoj
          have h3 := hinv.sat j hj oj hoj
          have hval : (match oj.dst with | some d => (a.put o.dst v).tmps.getD d undef | none => undef) = (match oj.dst with | some d => a.tmps.getD d undef | none => undef) := by
            cases hd : o.dst with
            | none => rfl
            | some d =>
              cases hdj : oj.dst with
              | none => rfl
              | some d' =>
                have := shapeD_ne hsh ho hoj hij hd
                rw [hdj] at this
                exact getD_put_ne (by intro e; exact this (by rw [e]))
          rw [hval]
          exact h3
    unfold wpOp
    simp only [ho]
    by_cases hw : Region.wanted o (yielded ops a.tmps) = true
    · rw [if_pos hw] at hs ⊢
      exact .inl (hs.wp fun v w' ⟨hI, hA⟩ => ih _ _ _ (by simpa using hsz) hcount (next v w' hI hA))
    · rw [if_neg hw] at hs ⊢
      exact ih _ _ _ (by simpa using hsz) hcount (next undef w hs.1 (by unfold slotD; split <;> exact hs.2))
/-- The end, by the slots' values. -/
theorem putsD_of {l : List Oper} {a : Act} (hsh : shapeD a0.tmps.size l.toArray = true) (hF : FrD l.toArray a0 a) :
    a = putsD a0 l (l.map fun (o : Oper) => match o.dst with | some d => a.tmps.getD d undef | none => undef) := by
  let vs : List Value := l.map fun (o : Oper) => match o.dst with | some d => a.tmps.getD d undef | none => undef
  have hvl : vs.length = l.length := by simp [vs]
  show a = putsD a0 l vs
  have h1 : a.tmps = (putsD a0 l vs).tmps := by
    apply Array.ext
    · rw [putsD_size, hF.2.1]
    · intro t ht1 ht2
      have key : a.tmps.getD t undef = (putsD a0 l vs).tmps.getD t undef := by
        by_cases hex : ∃ (i : Nat) (o : Oper), l[i]? = some o ∧ o.dst = some t
        · obtain ⟨i, o, ho, hd⟩ := hex
          have hlt : t < a0.tmps.size := shapeD_lt hsh (i := i) (o := o) (by simpa using ho) hd
          refine (putsD_at l vs a0 i t o (a.tmps.getD t undef) hvl.symm ho ?_ hd hlt fun j o' hj ho' => ?_).symm
          · simp [vs, ho, hd]
          · exact shapeD_ne hsh (i := i) (j := j) (o := o) (o' := o') (by simpa using ho) (by simpa using ho') (Ne.symm hj) hd
        · rw [putsD_get l vs a0 t hvl.symm fun o ho hd => hex ?_]
          · exact hF.2.2 t fun i o ho hd => hex ⟨i, o, by simpa using ho, hd⟩
          · obtain ⟨j, hj, e⟩ := List.mem_iff_getElem.1 ho
            exact ⟨j, o, by rw [List.getElem?_eq_getElem hj, e], hd⟩
      simpa [ht1, ht2] using key
  have h2 : a.defers = (putsD a0 l vs).defers := by rw [putsD_defers, hF.1]
  cases a
  generalize hp : putsD a0 l vs = b at *
  cases b
  simp_all
/-- The slots behind the region. -/
def stepsS : List Oper → (Nat → Value) → List Value → (Nat → Value)
  | o :: l, s, v :: vs => stepsS l (stepS o s v) vs
  | _, s, _ => s
theorem slF_putsD : ∀ (l : List Oper) (vs : List Value) (a : Act), (∀ o ∈ l, ∀ d, o.dst = some d → d < a.tmps.size) → slF (putsD a l vs) = stepsS l (slF a) vs
  | [], vs, a, _ => by cases vs <;> rfl
  | o :: l, [], a, _ => rfl
  | o :: l, v :: vs, a, h => by
    have ih := slF_putsD l vs (a.put o.dst v) fun o' ho' d hd => by rw [size_put]; exact h o' (List.mem_cons_of_mem _ ho') d hd
    rw [slF_put (h o List.mem_cons_self)] at ih
    exact ih
/-- What operation i of the region has to show. -/
def ShowF (P : Program) (l : List Oper) (a0 : Act) (J : (Nat → Bool) → (Nat → Value) → World → Prop) (V : List (Value → Prop)) (i : Nat) (o : Oper) : Prop :=
  ∀ li a w, closedF l.toArray li → li i = false → J li (slF a) w → FrD l.toArray a0 a → (∀ e ∈ o.after, Region.binds .any e = true → li e.on = true ∧ SatF l.toArray (fun i => V.getD i fun _ => True) a e.on) →
    if Region.wanted o (yielded l.toArray a.tmps) then OpOK P o a w (fun v w' => J (upd li i) (stepS o (slF a) v) w' ∧ (V.getD i fun _ => True) (slotD o v)) else J (upd li i) (stepS o (slF a) undef) w ∧ (V.getD i fun _ => True) undef
/-- What holds behind the region: the slots' values, one by one. -/
def endF : List (Value → Prop) → (List Value → Prop) → Prop
  | [], Q => Q []
  | A :: L, Q => ∀ v, A v → endF L fun vs => Q (v :: vs)
theorem endF_get : ∀ (L : List (Value → Prop)) (Q : List Value → Prop), endF L Q → ∀ vs : List Value, vs.length = L.length → (∀ i v, vs[i]? = some v → (L.getD i fun _ => True) v) → Q vs
  | [], Q, h, vs, hl, _ => by
    have : vs = [] := List.eq_nil_of_length_eq_zero (by simpa using hl)
    subst this; exact h
  | A :: L, Q, h, vs, hl, hs => by
    cases vs with
    | nil => simp at hl
    | cons v vs =>
      exact endF_get L (fun vs => Q (v :: vs)) (h v (hs 0 v rfl)) vs (by simpa using hl) fun i u hu => by
        have := hs (i + 1) u (by simpa using hu)
        simpa using this
theorem wp_region_F {id : Nat} {l : List Oper} (V : List (Value → Prop)) (J : (Nat → Bool) → (Nat → Value) → World → Prop) (hm : P.follows .mixedOrders = true)
    (hsh : shapeD a0.tmps.size l.toArray = true) (hlen : V.length = l.length) (h0 : J (fun i => decide (l.length ≤ i)) (slF a0) w.drew)
    (hstep : eachD (ShowF P l a0 J V) 0 l)
    (hend : endF V fun vs => ∀ w', J (fun _ => true) (stepsS l (slF a0) vs) w' → Q .normal (putsD a0 l vs) w') : (Code.region id l.toArray true).wp P Q a0 w := by
  refine wp_region_any hm ?_
  refine wpAny_F (J := J) (V := fun i => V.getD i fun _ => True) hsh (fun i o ho li a w1 hc hi hJ hF hS => ?_) (fun li a w1 hl hJ hF hS => ?_) _ _ _ _ (by simp) ?_ ⟨?_, ?_, rfl, rfl, fun _ _ => rfl, fun i hi => ?_⟩
  · have := eachD_get _ l 0 hstep i o (by simpa using ho) li a w1 hc (by rw [Nat.zero_add]; exact hi) hJ hF hS
    rw [Nat.zero_add] at this
    exact this
  · have e : li = fun _ => true := funext hl
    subst e
    have hp := putsD_of hsh hF
    have hend' := endF_get V _ hend (l.map fun (o : Oper) => match o.dst with | some d => a.tmps.getD d undef | none => undef) (by rw [List.length_map, hlen]) (fun i v hv => by
      have hi : i < l.length := by
        have := (List.getElem?_eq_some_iff.1 hv).1
        simpa using this
      have h3 := hS i (by simpa using hi) l[i] (by simp [hi])
      simp only [List.getElem?_map, List.getElem?_eq_getElem hi, Option.map_some, Option.some.injEq] at hv
      rw [← hv]; exact h3) w1
    rw [← slF_putsD l _ a0 (fun o ho d hd => by
      obtain ⟨j, hj, e⟩ := List.mem_iff_getElem.1 ho
      exact shapeD_lt hsh (i := j) (o := o) (by simp [hj, e]) hd), ← hp] at hend'
    exact hend' hJ
  · rw [Array.toList_replicate, List.count_replicate_self]; exact Nat.le_refl _
  · have e : lsF (Array.replicate l.toArray.size false) = fun i => decide (l.length ≤ i) := by
      funext i
      unfold lsF
      by_cases hi : i < l.length
      · have : ¬ l.length ≤ i := by omega
        simp [hi, this]
      · have : l.length ≤ i := by omega
        simp [hi, this]
    rw [e]; exact h0
  · intro i o ho hl
    exfalso
    unfold lsF at hl
    have hi : i < l.length := by
      have := (Array.getElem?_eq_some_iff.1 ho).1
      simpa using this
    simp [hi] at hl
  · exfalso
    rw [Array.getD_eq_getD_getElem?, Array.getElem?_replicate] at hi
    split at hi <;> simp at hi
/-- The block that a pointer names. -/
def blkF : Value → Nat
  | .pointer (some ad) => ad.block
  | _ => 0
/-- Plain operations. -/
theorem opF_val {o : Oper} {a : Act} {v : Value} {J : (Nat → Value) → World → Prop} {A : Value → Prop} {d : Tmp} (hd : o.dst = some d) (hr : (execOp a.eval o).run P w = .ok (.value v) w) (hJ : J (updS (slF a) d v) w) (hA : A v) :
    OpOK P o a w (fun v w' => J (stepS o (slF a) v) w' ∧ A (slotD o v)) := by
  unfold OpOK
  rw [hr]
  unfold stepS slotD
  rw [hd]
  exact ⟨hJ, hA⟩
def isPtr (v : Value) : Prop := ∃ g, v = .pointer (some ⟨g, 0, none⟩)
def optB (b : Bool) (p : Nat × Obj) (l : List (Nat × Obj)) : List (Nat × Obj) := match b with | true => p :: l | false => l
def selO (b : Bool) (o o' : Obj) : Obj := match b with | true => o' | false => o
theorem optB_f (p : Nat × Obj) (l : List (Nat × Obj)) : optB false p l = l := rfl
theorem optB_t (p : Nat × Obj) (l : List (Nat × Obj)) : optB true p l = p :: l := rfl
theorem Own.opt {b : Bool} {p : Nat × Obj} {l : List (Nat × Obj)} {g : Nat} {o : Obj} (h : Own l g o) : Own (optB b p l) g o := by
  cases b with
  | true => exact .there h
  | false => exact h
theorem Turn.opt {b : Bool} {p : Nat × Obj} {l l' : List (Nat × Obj)} {g : Nat} {o o' : Obj} (h : Turn l g o o' l') : Turn (optB b p l) g o o' (optB b p l') := by
  cases b with
  | true => exact .there h
  | false => exact h
theorem optB_perm {b : Bool} {p q : Nat × Obj} {l : List (Nat × Obj)} : (q :: optB b p l).Perm (optB b p (q :: l)) := by
  cases b with
  | true => exact List.Perm.swap p q l
  | false => exact List.Perm.refl _
theorem closedF.off {l : Nat → Bool} {i j : Nat} (hc : closedF ops l) (hw : waits ops j i = true) (hi : l i = false) : l j = false := by
  cases hj : l j with
  | false => rfl
  | true =>
    exfalso
    unfold waits at hw
    cases ho : ops[j]? with
    | none => rw [ho] at hw; simp at hw
    | some o =>
      rw [ho] at hw
      simp only [Option.map_some, Option.getD_some, List.any_eq_true, Bool.and_eq_true, decide_eq_true_eq] at hw
      obtain ⟨e, he, hb, rfl⟩ := hw
      rw [hc j o ho hj e (Array.mem_toList_iff.1 he) hb] at hi
      cases hi
end
end Go.Proofs.Ytgkfopodhikckaa

/- climb of merkle. Condition: a path of at most ten nodes. -/
namespace Go.Proofs.Ytgkfopodhikckaa
open Go.RowKit
attribute [local irreducible] wpQuiet wpList
def ClimbRel (w0 : World) (S : List Nat) (bsOf : Nat → List (Nat × Obj)) (rows : List Row) (i : Nat) (x : Nd) (p : List Nd) (g4 g8 : Nat) (kv : Value) (wr : World) : Prop :=
  ∃ k : Nat, k ≤ p.length ∧ kv = .int .i64 k ∧ Holds w0 S ((g8, objC Nd0.cells 34) :: (g4, objC (curAt i x p k).cells 34) :: bsOf k) rows wr
def CJ4 (w0 : World) (S : List Nat) (bs : List (Nat × Obj)) (rows : List Row) (c s : Nd) (l : Nat → Bool) (sl : Nat → Value) (w : World) : Prop :=
  Holds w0 S (optB (l 2) (blkF (sl 11), selO (l 4) (objC Nd0.cells 34) (objC c.cells 34)) (optB (l 3) (blkF (sl 12), selO (l 5) (objC Nd0.cells 34) (objC s.cells 34)) bs)) rows w
def CJ6 (w0 : World) (S : List Nat) (bs : List (Nat × Obj)) (rows : List Row) (c s : Nd) (g11 g12 : Nat) (l : Nat → Bool) (sl : Nat → Value) (w : World) : Prop :=
  Holds w0 S ((g11, selO (l 2) (objC c.cells 34) (objC s.cells 34)) :: (g12, selO (l 3) (objC s.cells 34) (objC c.cells 34)) :: bs) rows w
section
variable {P : Program} {w0 w : World} {S : List Nat} {bs : List (Nat × Obj)} {rows : List Row} {c s : Nd} {l : Nat → Bool} {a : Act}
set_option maxRecDepth 100000 in
theorem cj4_2 {pos : String} {ty : TypeId} {after : Array Edge} {guard : Option (Nat × Bool)} (hJ : CJ4 w0 S bs rows c s l (slF a) w) (h2 : l 2 = false) (h4 : l 4 = false) :
    OpOK Try.prog { dst := some 11, op := .alloc 34, type := ty, pos := pos, after := after, guard := guard } a w (fun v w' => CJ4 w0 S bs rows c s (upd l 2) (updS (slF a) 11 v) w' ∧ isPtr v) := by
  unfold CJ4 at hJ
  rw [h2, optB_f] at hJ
  refine ok_alloc (zs := (Arr.zero 16).cells) kZ34 hJ (fun g w' h' => ?_)
  refine ⟨?_, ⟨g, rfl⟩⟩
  show Holds w0 S ((g, selO (l 4) _ _) :: optB (l 3) _ bs) rows w'
  rw [h4]
  exact h'
set_option maxRecDepth 100000 in
theorem cj4_3 {pos : String} {ty : TypeId} {after : Array Edge} {guard : Option (Nat × Bool)} (hJ : CJ4 w0 S bs rows c s l (slF a) w) (h3 : l 3 = false) (h5 : l 5 = false) :
    OpOK Try.prog { dst := some 12, op := .alloc 34, type := ty, pos := pos, after := after, guard := guard } a w (fun v w' => CJ4 w0 S bs rows c s (upd l 3) (updS (slF a) 12 v) w' ∧ isPtr v) := by
  unfold CJ4 at hJ
  rw [h3, optB_f] at hJ
  refine ok_alloc (zs := (Arr.zero 16).cells) kZ34 hJ (fun g w' h' => ?_)
  refine ⟨?_, ⟨g, rfl⟩⟩
  show Holds w0 S (optB (l 2) _ ((g, selO (l 5) _ _) :: bs)) rows w'
  rw [h5]
  exact h'.permB optB_perm
set_option maxRecDepth 100000 in
theorem cj4_4 {pos : String} {ty : TypeId} {after : Array Edge} {guard : Option (Nat × Bool)} (hJ : CJ4 w0 S bs rows c s l (slF a) w) (h2 : l 2 = true) (h4 : l 4 = false) (e1 : isPtr (a.eval (.tmp 11))) (e2 : a.eval (.tmp 20) = c.val) :
    OpOK Try.prog { dst := none, op := .store 34 (.tmp 11) (.tmp 20), type := ty, pos := pos, after := after, guard := guard } a w (fun v w' => CJ4 w0 S bs rows c s (upd l 4) (slF a) w' ∧ True) := by
  obtain ⟨g, hg⟩ := e1
  have hs : slF a 11 = .pointer (some ⟨g, 0, none⟩) := hg
  unfold CJ4 at hJ
  rw [h2, h4, hs] at hJ
  refine ok_store (vs := c.cells) (cs := Nd0.cells) (e := 34) hg e2 kS34 hJ .here (Arr.len _) (cells_one _) (Arr.len _) fun w' h' => ⟨?_, trivial⟩
  show Holds w0 S (optB (l 2) (blkF (slF a 11), _) (optB (l 3) _ bs)) rows w'
  rw [h2, hs]
  exact h'
set_option maxRecDepth 100000 in
theorem cj4_5 {pos : String} {ty : TypeId} {after : Array Edge} {guard : Option (Nat × Bool)} (hJ : CJ4 w0 S bs rows c s l (slF a) w) (h3 : l 3 = true) (h5 : l 5 = false) (e1 : isPtr (a.eval (.tmp 12))) (e2 : a.eval (.tmp 21) = s.val) :
    OpOK Try.prog { dst := none, op := .store 34 (.tmp 12) (.tmp 21), type := ty, pos := pos, after := after, guard := guard } a w (fun v w' => CJ4 w0 S bs rows c s (upd l 5) (slF a) w' ∧ True) := by
  obtain ⟨g, hg⟩ := e1
  have hs : slF a 12 = .pointer (some ⟨g, 0, none⟩) := hg
  unfold CJ4 at hJ
  rw [h3, h5, hs] at hJ
  refine ok_store (vs := s.cells) (cs := Nd0.cells) (e := 34) hg e2 kS34 hJ (Turn.opt .here) (Arr.len _) (cells_one _) (Arr.len _) fun w' h' => ⟨?_, trivial⟩
  show Holds w0 S (optB (l 2) _ (optB (l 3) (blkF (slF a 12), _) bs)) rows w'
  rw [h3, hs]
  exact h'
set_option maxRecDepth 100000 in
theorem cj6_2 {g11 g12 : Nat} {pos : String} {ty : TypeId} {after : Array Edge} {guard : Option (Nat × Bool)} (hJ : CJ6 w0 S bs rows c s g11 g12 l (slF a) w) (h2 : l 2 = false) (e1 : a.eval (.tmp 11) = .pointer (some ⟨g11, 0, none⟩)) (e2 : a.eval (.tmp 27) = s.val) :
    OpOK Try.prog { dst := none, op := .store 34 (.tmp 11) (.tmp 27), type := ty, pos := pos, after := after, guard := guard } a w (fun v w' => CJ6 w0 S bs rows c s g11 g12 (upd l 2) (slF a) w' ∧ True) := by
  unfold CJ6 at hJ
  rw [h2] at hJ
  exact ok_store (vs := s.cells) (cs := c.cells) (e := 34) e1 e2 kS34 hJ .here (Arr.len _) (cells_one _) (Arr.len _) fun w' h' => ⟨h', trivial⟩
set_option maxRecDepth 100000 in
theorem cj6_3 {g11 g12 : Nat} {pos : String} {ty : TypeId} {after : Array Edge} {guard : Option (Nat × Bool)} (hJ : CJ6 w0 S bs rows c s g11 g12 l (slF a) w) (h3 : l 3 = false) (e1 : a.eval (.tmp 12) = .pointer (some ⟨g12, 0, none⟩)) (e2 : a.eval (.tmp 28) = c.val) :
    OpOK Try.prog { dst := none, op := .store 34 (.tmp 12) (.tmp 28), type := ty, pos := pos, after := after, guard := guard } a w (fun v w' => CJ6 w0 S bs rows c s g11 g12 (upd l 3) (slF a) w' ∧ True) := by
  unfold CJ6 at hJ
  rw [h3] at hJ
  exact ok_store (vs := c.cells) (cs := s.cells) (e := 34) e1 e2 kS34 hJ (.there .here) (Arr.len _) (cells_one _) (Arr.len _) fun w' h' => ⟨h', trivial⟩
end
theorem curAt_succ (i : Nat) (x : Nd) (p : List Nd) (k : Nat) : curAt i x p (k + 1) = joinN ((k : Int) + 1) (pairC i k (curAt i x p k) (p.getD k Nd0)).1 (pairC i k (curAt i x p k) (p.getD k Nd0)).2 := rfl
set_option maxRecDepth 100000 in
set_option maxHeartbeats 4000000 in
theorem climb_any (w0 w : World) (S : List Nat) (bsOf : Nat → List (Nat × Obj)) (rows : List Row) (f : FuncId) (cap : Array Value) (hf : Body Try.prog f) (v : Value) (x : Nd) (p : List Nd) (i : Nat)
    (hp : ∀ bs w1, Holds w0 S bs rows w1 → Arrs w1 v p) (hlen : p.length ≤ 10) (hi : i ≤ 1024) (hH : Holds w0 S (bsOf 0) rows w)
    (hvis : ∀ k, k < p.length → ∀ ex w1, Holds w0 S (ex ++ bsOf k) rows w1 →
      Calls Try.prog f (#[.int .i64 ((k : Int) + 1), (pairC i k (curAt i x p k) (p.getD k Nd0)).1.val, (pairC i k (curAt i x p k) (p.getD k Nd0)).2.val] ++ cap) w1 (fun e w2 => e = .returned (.tuple #[]) ∧ Holds w0 S (ex ++ bsOf (k + 1)) rows w2)) :
    Calls Try.prog 73 #[x.val, .int .i64 i, v, .func (.func f) #[] cap] w (fun e w' => e = .returned (curAt i x p p.length).val ∧ Holds w0 S (bsOf p.length) rows w') := by
  obtain ⟨ao, cap0, rfl, _⟩ := (hp _ _ hH).shape
  have HP := hid hp
  have HV := hid hvis
  have HH := hid hH
  have HI := hid hi
  have HF := hid hf
  clear hp hvis hH
  go_enter Try.func73, Try.ntmps73
  go_wp2_with (first
    | ((first
        | ((with_reducible apply wpL_skip); rfl; skip)
        | ((with_reducible apply wpL_nilCheck); rfl; rfl)
        | ((with_reducible apply wpL_loadArr (t := 34) kA34 HH.out); rfl; (first | exact .here | exact .there .here | exact .there (.there .here) | exact .there (.there (.there .here)) | exact .there (.there (.there (.there .here))) | exact .there (.there (.there (.there (.there .here)))) | exact .there (.there (.there (.there (.there (.there .here))))) | exact .there (.there (.there (.there (.there (.there (.there .here))))))); rfl)
        | ((with_reducible apply wpL_loadC (t := 34) kA34 HH.out); rfl; (first | exact .here | exact .there .here | exact .there (.there .here) | exact .there (.there (.there .here)) | exact .there (.there (.there (.there .here))) | exact .there (.there (.there (.there (.there .here)))) | exact .there (.there (.there (.there (.there (.there .here))))) | exact .there (.there (.there (.there (.there (.there (.there .here))))))); (first | rfl | exact Arr.len _ | (simp; done)); rfl)
        | ((with_reducible apply wpL_len (t := 46) Try.underlying46); rfl; rfl)
        | ((with_reducible apply wpL_boxArr (dst := some 4)); rfl; (exact HH.out); rfl; (intro g4_ w_ hq_; (try simp only [List.set_cons_zero, List.set_cons_succ] at hq_); clear HH; have HH := hid hq_; clear hq_))
        | ((with_reducible apply wpL_allocC (dst := some 8) kZ34 HH.out); rfl; (intro g8_ w_ hq_; (try simp only [List.set_cons_zero, List.set_cons_succ] at hq_); clear HH; have HH := hid hq_; clear hq_))
        | ((with_reducible apply wpL_allocC (dst := some 10) kZ34 HH.out); rfl; (intro g10_ w_ hq_; (try simp only [List.set_cons_zero, List.set_cons_succ] at hq_); clear HH; have HH := hid hq_; clear hq_))
        | ((with_reducible apply wpL_allocC (dst := some 11) kZ34 HH.out); rfl; (intro g11_ w_ hq_; (try simp only [List.set_cons_zero, List.set_cons_succ] at hq_); clear HH; have HH := hid hq_; clear hq_))
        | ((with_reducible apply wpL_allocC (dst := some 12) kZ34 HH.out); rfl; (intro g12_ w_ hq_; (try simp only [List.set_cons_zero, List.set_cons_succ] at hq_); clear HH; have HH := hid hq_; clear hq_))
        | ((with_reducible apply wpL_storeArr (t := 34) kS34 HH.out); rfl; rfl; (first | exact .here | exact .there .here | exact .there (.there .here) | exact .there (.there (.there .here)) | exact .there (.there (.there (.there .here))) | exact .there (.there (.there (.there (.there .here)))) | exact .there (.there (.there (.there (.there (.there .here))))) | exact .there (.there (.there (.there (.there (.there (.there .here))))))); (first | rfl | exact Arr.len _ | (simp; done)); rfl; (intro w_ hq_; (try simp only [List.set_cons_zero, List.set_cons_succ] at hq_); clear HH; have HH := hid hq_; clear hq_))
        | ((with_reducible apply wpL_storeC (t := 34)); rfl; rfl; (exact kS34); (exact HH.out); (first | exact .here | exact .there .here | exact .there (.there .here) | exact .there (.there (.there .here)) | exact .there (.there (.there (.there .here))) | exact .there (.there (.there (.there (.there .here)))) | exact .there (.there (.there (.there (.there (.there .here))))) | exact .there (.there (.there (.there (.there (.there (.there .here))))))); (first | rfl | exact Arr.len _ | (simp; done)); (first | rfl | (intro u_ hu_; simp only [List.mem_cons, List.not_mem_nil, or_false] at hu_; rcases hu_ with rfl | hu_; rfl) | exact byt_cell1 _ | exact cells_one _ | exact wrd_one _ | exact flat_cell1 _); (first | rfl | exact Arr.len _ | (simp; done)); rfl; (intro w_ hq_; (try simp only [List.set_cons_zero, List.set_cons_succ] at hq_); clear HH; have HH := hid hq_; clear hq_))
        | ((with_reducible apply wpL_move); rfl; rfl)
        | ((with_reducible apply wpL_assign); rfl; rfl)
        | ((with_reducible apply wpL_pick); rfl; rfl; rfl)
        | ((with_reducible apply wpL_not); rfl; rfl)
        | ((with_reducible apply wpL_cmp (b := true)); rfl; rfl; rfl; (first | rfl | assumption | (simp only [cmpB, decide_eq_true_eq, decide_eq_false_iff_not, beq_iff_eq, bne_iff_ne, ne_eq, beq_eq_false_iff_ne, bne_eq_false_iff_eq, gt_iff_lt, ge_iff_le]; omega) | (simp; omega)); rfl)
        | ((with_reducible apply wpL_cmp (b := false)); rfl; rfl; rfl; (first | rfl | assumption | (simp only [cmpB, decide_eq_true_eq, decide_eq_false_iff_not, beq_iff_eq, bne_iff_ne, ne_eq, beq_eq_false_iff_ne, bne_eq_false_iff_eq, gt_iff_lt, ge_iff_le]; omega) | (simp; omega)); rfl)
        | ((with_reducible apply wpL_cmp); rfl; rfl; rfl; rfl; rfl)
        | ((with_reducible apply wpL_arith); rfl; rfl; rfl; (exact IntWalk.i64_in _ (by (try simp only [arithI]); omega)); rfl)); (try simp only [arithI, Act.put, Act.eval, List.setIfInBounds_toArray, List.set_cons_succ, List.set_cons_zero, Array.getD_eq_getD_getElem?, List.getElem?_toArray, List.getElem?_cons_succ, List.getElem?_cons_zero, Option.getD_some])))
  go_loopw [15] (ClimbRel w0 S bsOf rows i x p g4_ g8_) (fun kv _ => p.length - (intOf kv).toNat)
  case atStart => exact ⟨0, Nat.zero_le _, rfl, HH.out⟩
  case round =>
    obtain ⟨k, hk, rfl, hr⟩ := hrel
    clear HH
    have HH := hid hr
    clear hr
    by_cases hlt : k < p.length
    · obtain ⟨c, hc⟩ : ∃ c, curAt i x p k = c := ⟨_, rfl⟩
      obtain ⟨s, hs⟩ : ∃ s, p.getD k Nd0 = s := ⟨_, rfl⟩
      have hv := HV.out k hlt
      have hst := curAt_succ i x p k
      rw [hc, hs] at hv hst
      have hh := HH.out
      rw [hc] at hh
      clear HH
      have HH := hid hh
      clear hh hc
      have HS := hid hs
      obtain ⟨ad, cap', e⟩ := (HP.out _ _ HH.out).some (by omega)
      cases e
      have HAR := hid (fun w1 (h1 : ∃ bs, Holds w0 S bs rows w1) => get_as (show Arrs w1 (.slice (some ad) p.length cap0) p from HP.out _ _ h1.choose_spec) hlt (show p[k] = s by rw [← hs]; simp [hlt]))
      clear hs
      go_wp2_with (first
        | ((first
            | ((with_reducible apply wpL_skip); rfl; skip)
            | ((with_reducible apply wpL_idx (dst := some 18) (j := k) kE46); rfl; rfl; rfl; (exact hlt); rfl)
            | ((with_reducible apply wpL_loadEl (dst := some 19) (v := s) kA34 (HAR.out _ ⟨_, HH.out⟩)); rfl; rfl)
            | ((with_reducible apply wpL_nilCheck); rfl; rfl)
            | ((with_reducible apply wpL_loadArr (t := 34) kA34 HH.out); rfl; (first | exact .here | exact .there .here | exact .there (.there .here) | exact .there (.there (.there .here)) | exact .there (.there (.there (.there .here))) | exact .there (.there (.there (.there (.there .here)))) | exact .there (.there (.there (.there (.there (.there .here))))) | exact .there (.there (.there (.there (.there (.there (.there .here))))))); rfl)
            | ((with_reducible apply wpL_loadC (t := 34) kA34 HH.out); rfl; (first | exact .here | exact .there .here | exact .there (.there .here) | exact .there (.there (.there .here)) | exact .there (.there (.there (.there .here))) | exact .there (.there (.there (.there (.there .here)))) | exact .there (.there (.there (.there (.there (.there .here))))) | exact .there (.there (.there (.there (.there (.there (.there .here))))))); (first | rfl | exact Arr.len _ | (simp; done)); rfl)
            | ((with_reducible apply wpL_len (t := 46) Try.underlying46); rfl; rfl)
            | ((with_reducible apply wpL_boxArr (dst := some 4)); rfl; (exact HH.out); rfl; (intro g4_ w_ hq_; (try simp only [List.set_cons_zero, List.set_cons_succ] at hq_); clear HH; have HH := hid hq_; clear hq_))
            | ((with_reducible apply wpL_allocC (dst := some 8) kZ34 HH.out); rfl; (intro g8_ w_ hq_; (try simp only [List.set_cons_zero, List.set_cons_succ] at hq_); clear HH; have HH := hid hq_; clear hq_))
            | ((with_reducible apply wpL_allocC (dst := some 10) kZ34 HH.out); rfl; (intro g10_ w_ hq_; (try simp only [List.set_cons_zero, List.set_cons_succ] at hq_); clear HH; have HH := hid hq_; clear hq_))
            | ((with_reducible apply wpL_allocC (dst := some 11) kZ34 HH.out); rfl; (intro g11_ w_ hq_; (try simp only [List.set_cons_zero, List.set_cons_succ] at hq_); clear HH; have HH := hid hq_; clear hq_))
            | ((with_reducible apply wpL_allocC (dst := some 12) kZ34 HH.out); rfl; (intro g12_ w_ hq_; (try simp only [List.set_cons_zero, List.set_cons_succ] at hq_); clear HH; have HH := hid hq_; clear hq_))
            | ((with_reducible apply wpL_storeArr (t := 34) kS34 HH.out); rfl; rfl; (first | exact .here | exact .there .here | exact .there (.there .here) | exact .there (.there (.there .here)) | exact .there (.there (.there (.there .here))) | exact .there (.there (.there (.there (.there .here)))) | exact .there (.there (.there (.there (.there (.there .here))))) | exact .there (.there (.there (.there (.there (.there (.there .here))))))); (first | rfl | exact Arr.len _ | (simp; done)); rfl; (intro w_ hq_; (try simp only [List.set_cons_zero, List.set_cons_succ] at hq_); clear HH; have HH := hid hq_; clear hq_))
            | ((with_reducible apply wpL_storeC (t := 34)); rfl; rfl; (exact kS34); (exact HH.out); (first | exact .here | exact .there .here | exact .there (.there .here) | exact .there (.there (.there .here)) | exact .there (.there (.there (.there .here))) | exact .there (.there (.there (.there (.there .here)))) | exact .there (.there (.there (.there (.there (.there .here))))) | exact .there (.there (.there (.there (.there (.there (.there .here))))))); (first | rfl | exact Arr.len _ | (simp; done)); (first | rfl | (intro u_ hu_; simp only [List.mem_cons, List.not_mem_nil, or_false] at hu_; rcases hu_ with rfl | hu_; rfl) | exact byt_cell1 _ | exact cells_one _ | exact wrd_one _ | exact flat_cell1 _); (first | rfl | exact Arr.len _ | (simp; done)); rfl; (intro w_ hq_; (try simp only [List.set_cons_zero, List.set_cons_succ] at hq_); clear HH; have HH := hid hq_; clear hq_))
            | ((with_reducible apply wpL_move); rfl; rfl)
            | ((with_reducible apply wpL_assign); rfl; rfl)
            | ((with_reducible apply wpL_pick); rfl; rfl; rfl)
            | ((with_reducible apply wpL_not); rfl; rfl)
            | ((with_reducible apply wpL_cmp (b := true)); rfl; rfl; rfl; (first | rfl | assumption | (simp only [cmpB, decide_eq_true_eq, decide_eq_false_iff_not, beq_iff_eq, bne_iff_ne, ne_eq, beq_eq_false_iff_ne, bne_eq_false_iff_eq, gt_iff_lt, ge_iff_le]; omega) | (simp; omega)); rfl)
            | ((with_reducible apply wpL_cmp (b := false)); rfl; rfl; rfl; (first | rfl | assumption | (simp only [cmpB, decide_eq_true_eq, decide_eq_false_iff_not, beq_iff_eq, bne_iff_ne, ne_eq, beq_eq_false_iff_ne, bne_eq_false_iff_eq, gt_iff_lt, ge_iff_le]; omega) | (simp; omega)); rfl)
            | ((with_reducible apply wpL_cmp); rfl; rfl; rfl; rfl; rfl)
            | ((with_reducible apply wpL_arith); rfl; rfl; rfl; (exact IntWalk.i64_in _ (by (try simp only [arithI]); omega)); rfl)); (try simp only [arithI, Act.put, Act.eval, List.setIfInBounds_toArray, List.set_cons_succ, List.set_cons_zero, Array.getD_eq_getD_getElem?, List.getElem?_toArray, List.getElem?_cons_succ, List.getElem?_cons_zero, Option.getD_some])))
      refine wp_region_F [(fun u_ => u_ = c.val), (fun u_ => u_ = s.val), (isPtr), (isPtr), (fun _ => True), (fun _ => True)] (CJ4 w0 S ((g10_, objC s.cells 34) :: (g8_, objC Nd0.cells 34) :: (g4_, objC c.cells 34) :: bsOf k) rows c s) (by kernel_rfl) (by kernel_rfl) rfl (HH.out.drew) ?_ ?_
      · refine eachD_cons ?_ (eachD_cons ?_ (eachD_cons ?_ (eachD_cons ?_ (eachD_cons ?_ (eachD_cons ?_ (eachD_nil))))))
        · intro li_ a_ w1 hc hi hJ hF hS
          have e4 : a_.eval (.tmp 4) = (.pointer (some ⟨g4_, 0, none⟩)) := (hF.2.2 4 (notDst_of (by kernel_rfl))).trans rfl
          refine wantD (by rfl) ?_
          exact ok_load kA34 hJ e4 (Own.opt (Own.opt (.there (.there .here)))) (Arr.len _) ⟨hJ, rfl⟩
        · intro li_ a_ w1 hc hi hJ hF hS
          have e10 : a_.eval (.tmp 10) = (.pointer (some ⟨g10_, 0, none⟩)) := (hF.2.2 10 (notDst_of (by kernel_rfl))).trans rfl
          refine wantD (by rfl) ?_
          exact ok_load kA34 hJ e10 (Own.opt (Own.opt .here)) (Arr.len _) ⟨hJ, rfl⟩
        · intro li_ a_ w1 hc hi hJ hF hS
          refine wantD (by rfl) ?_
          exact cj4_2 hJ hi (hc.off (j := 4) (by kernel_rfl) hi)
        · intro li_ a_ w1 hc hi hJ hF hS
          refine wantD (by rfl) ?_
          exact cj4_3 hJ hi (hc.off (j := 5) (by kernel_rfl) hi)
        · intro li_ a_ w1 hc hi hJ hF hS
          have l2 : li_ 2 = true := (hS ⟨2, .data⟩ (by simp) rfl).1
          have l0 : li_ 0 = true := (hS ⟨0, .data⟩ (by simp) rfl).1
          have l3 : li_ 3 = true := (hS ⟨3, .phase⟩ (by simp) rfl).1
          have e11 : (isPtr) (a_.eval (.tmp 11)) := (hS ⟨2, .data⟩ (by simp) rfl).2 _ rfl
          have e20 : a_.eval (.tmp 20) = c.val := (hS ⟨0, .data⟩ (by simp) rfl).2 _ rfl
          refine wantD (by rfl) ?_
          exact cj4_4 hJ l2 hi e11 e20
        · intro li_ a_ w1 hc hi hJ hF hS
          have l3 : li_ 3 = true := (hS ⟨3, .data⟩ (by simp) rfl).1
          have l1 : li_ 1 = true := (hS ⟨1, .data⟩ (by simp) rfl).1
          have l4 : li_ 4 = true := (hS ⟨4, .chain⟩ (by simp) rfl).1
          have l0 : li_ 0 = true := (hS ⟨0, .phase⟩ (by simp) rfl).1
          have l2 : li_ 2 = true := (hS ⟨2, .phase⟩ (by simp) rfl).1
          have e12 : (isPtr) (a_.eval (.tmp 12)) := (hS ⟨3, .data⟩ (by simp) rfl).2 _ rfl
          have e21 : a_.eval (.tmp 21) = s.val := (hS ⟨1, .data⟩ (by simp) rfl).2 _ rfl
          refine wantD (by rfl) ?_
          exact cj4_5 hJ l3 hi e12 e21
      intro v0_ h0_ v1_ h1_ v2_ h2_ v3_ h3_ v4_ h4_ v5_ h5_
      intro wq hq_
      have q_ : v0_ = c.val := h0_; clear h0_; subst q_
      have q_ : v1_ = s.val := h1_; clear h1_; subst q_
      obtain ⟨g11_, rfl⟩ := h2_
      obtain ⟨g12_, rfl⟩ := h3_
      clear h4_
      clear h5_
      have HQ := hid hq_; clear hq_
      simp only [putsD, Act.put, List.setIfInBounds_toArray, List.set_cons_succ, List.set_cons_zero]
      have hq2_ : Holds w0 S ((g11_, objC c.cells 34) :: (g12_, objC s.cells 34) :: (g10_, objC s.cells 34) :: (g8_, objC Nd0.cells 34) :: (g4_, objC c.cells 34) :: bsOf k) rows wq := HQ.out
      clear HH HQ
      have HH := hid hq2_
      clear hq2_
      obtain ⟨q, hq1⟩ : ∃ q, i / 2 ^ k = q := ⟨_, rfl⟩
      have hq10 : q ≤ 1024 := by rw [← hq1]; exact Nat.le_trans (Nat.div_le_self _ _) hi
      have HQ1 := hid hq1
      have HB1 := hid (show q < 2 ^ IntKind.i64.bits from Nat.lt_of_lt_of_le (show q < 1025 by omega) (by decide))
      clear hq1
      by_cases hbit : (i / 2 ^ k) % 2 = 1
      · have hpair : pairC i k c s = (s, c) := by unfold pairC; rw [if_pos hbit]
        rw [hpair] at hv hst
        obtain ⟨c2, hc2⟩ : ∃ c2, joinN ((k : Int) + 1) s c = c2 := ⟨_, rfl⟩
        have HC2 := hid hc2
        have HST := hid (show curAt i x p (k + 1) = c2 by rw [hst]; exact hc2)
        have HVIS := hid hv
        have HAND := hid (show q &&& 1 = 1 by rw [Nat.and_one_is_mod, ← HQ1.out]; exact hbit)
        clear hpair hv hst hc2 hbit
        go_wp2_with (first
          | ((first
              | ((with_reducible apply wpL_skip); rfl; skip)
              | ((with_reducible apply wpL_shrI (m := i) (k := k) (r := q)); rfl; rfl; rfl; rfl; (exact (by omega)); (exact HQ1.out); rfl)
              | ((with_reducible apply wpL_and (m := q) (n := 1) (r := 1)); rfl; rfl; rfl; rfl; (exact HB1.out); (exact (by decide)); (exact HAND.out); (exact (by decide)); rfl)
              | ((with_reducible apply wpL_nilCheck); rfl; rfl)
              | ((with_reducible apply wpL_loadArr (t := 34) kA34 HH.out); rfl; (first | exact .here | exact .there .here | exact .there (.there .here) | exact .there (.there (.there .here)) | exact .there (.there (.there (.there .here))) | exact .there (.there (.there (.there (.there .here)))) | exact .there (.there (.there (.there (.there (.there .here))))) | exact .there (.there (.there (.there (.there (.there (.there .here))))))); rfl)
              | ((with_reducible apply wpL_loadC (t := 34) kA34 HH.out); rfl; (first | exact .here | exact .there .here | exact .there (.there .here) | exact .there (.there (.there .here)) | exact .there (.there (.there (.there .here))) | exact .there (.there (.there (.there (.there .here)))) | exact .there (.there (.there (.there (.there (.there .here))))) | exact .there (.there (.there (.there (.there (.there (.there .here))))))); (first | rfl | exact Arr.len _ | (simp; done)); rfl)
              | ((with_reducible apply wpL_len (t := 46) Try.underlying46); rfl; rfl)
              | ((with_reducible apply wpL_boxArr (dst := some 4)); rfl; (exact HH.out); rfl; (intro g4_ w_ hq_; (try simp only [List.set_cons_zero, List.set_cons_succ] at hq_); clear HH; have HH := hid hq_; clear hq_))
              | ((with_reducible apply wpL_allocC (dst := some 8) kZ34 HH.out); rfl; (intro g8_ w_ hq_; (try simp only [List.set_cons_zero, List.set_cons_succ] at hq_); clear HH; have HH := hid hq_; clear hq_))
              | ((with_reducible apply wpL_allocC (dst := some 10) kZ34 HH.out); rfl; (intro g10_ w_ hq_; (try simp only [List.set_cons_zero, List.set_cons_succ] at hq_); clear HH; have HH := hid hq_; clear hq_))
              | ((with_reducible apply wpL_allocC (dst := some 11) kZ34 HH.out); rfl; (intro g11_ w_ hq_; (try simp only [List.set_cons_zero, List.set_cons_succ] at hq_); clear HH; have HH := hid hq_; clear hq_))
              | ((with_reducible apply wpL_allocC (dst := some 12) kZ34 HH.out); rfl; (intro g12_ w_ hq_; (try simp only [List.set_cons_zero, List.set_cons_succ] at hq_); clear HH; have HH := hid hq_; clear hq_))
              | ((with_reducible apply wpL_storeArr (t := 34) kS34 HH.out); rfl; rfl; (first | exact .here | exact .there .here | exact .there (.there .here) | exact .there (.there (.there .here)) | exact .there (.there (.there (.there .here))) | exact .there (.there (.there (.there (.there .here)))) | exact .there (.there (.there (.there (.there (.there .here))))) | exact .there (.there (.there (.there (.there (.there (.there .here))))))); (first | rfl | exact Arr.len _ | (simp; done)); rfl; (intro w_ hq_; (try simp only [List.set_cons_zero, List.set_cons_succ] at hq_); clear HH; have HH := hid hq_; clear hq_))
              | ((with_reducible apply wpL_storeC (t := 34)); rfl; rfl; (exact kS34); (exact HH.out); (first | exact .here | exact .there .here | exact .there (.there .here) | exact .there (.there (.there .here)) | exact .there (.there (.there (.there .here))) | exact .there (.there (.there (.there (.there .here)))) | exact .there (.there (.there (.there (.there (.there .here))))) | exact .there (.there (.there (.there (.there (.there (.there .here))))))); (first | rfl | exact Arr.len _ | (simp; done)); (first | rfl | (intro u_ hu_; simp only [List.mem_cons, List.not_mem_nil, or_false] at hu_; rcases hu_ with rfl | hu_; rfl) | exact byt_cell1 _ | exact cells_one _ | exact wrd_one _ | exact flat_cell1 _); (first | rfl | exact Arr.len _ | (simp; done)); rfl; (intro w_ hq_; (try simp only [List.set_cons_zero, List.set_cons_succ] at hq_); clear HH; have HH := hid hq_; clear hq_))
              | ((with_reducible apply wpL_move); rfl; rfl)
              | ((with_reducible apply wpL_assign); rfl; rfl)
              | ((with_reducible apply wpL_pick); rfl; rfl; rfl)
              | ((with_reducible apply wpL_not); rfl; rfl)
              | ((with_reducible apply wpL_cmp (b := true)); rfl; rfl; rfl; (first | rfl | assumption | (simp only [cmpB, decide_eq_true_eq, decide_eq_false_iff_not, beq_iff_eq, bne_iff_ne, ne_eq, beq_eq_false_iff_ne, bne_eq_false_iff_eq, gt_iff_lt, ge_iff_le]; omega) | (simp; omega)); rfl)
              | ((with_reducible apply wpL_cmp (b := false)); rfl; rfl; rfl; (first | rfl | assumption | (simp only [cmpB, decide_eq_true_eq, decide_eq_false_iff_not, beq_iff_eq, bne_iff_ne, ne_eq, beq_eq_false_iff_ne, bne_eq_false_iff_eq, gt_iff_lt, ge_iff_le]; omega) | (simp; omega)); rfl)
              | ((with_reducible apply wpL_cmp); rfl; rfl; rfl; rfl; rfl)
              | ((with_reducible apply wpL_arith); rfl; rfl; rfl; (exact IntWalk.i64_in _ (by (try simp only [arithI]); omega)); rfl)); (try simp only [arithI, Act.put, Act.eval, List.setIfInBounds_toArray, List.set_cons_succ, List.set_cons_zero, Array.getD_eq_getD_getElem?, List.getElem?_toArray, List.getElem?_cons_succ, List.getElem?_cons_zero, Option.getD_some])))
        refine wp_region_F [(fun u_ => u_ = s.val), (fun u_ => u_ = c.val), (fun _ => True), (fun _ => True)] (CJ6 w0 S ((g10_, objC s.cells 34) :: (g8_, objC Nd0.cells 34) :: (g4_, objC c.cells 34) :: bsOf k) rows c s g11_ g12_) (by kernel_rfl) (by kernel_rfl) rfl (HH.out.drew) ?_ ?_
        · refine eachD_cons ?_ (eachD_cons ?_ (eachD_cons ?_ (eachD_cons ?_ (eachD_nil))))
          · intro li_ a_ w1 hc hi hJ hF hS
            have e10 : a_.eval (.tmp 10) = (.pointer (some ⟨g10_, 0, none⟩)) := (hF.2.2 10 (notDst_of (by kernel_rfl))).trans rfl
            refine wantD (by rfl) ?_
            exact ok_load kA34 hJ e10 (.there (.there .here)) (Arr.len _) ⟨hJ, rfl⟩
          · intro li_ a_ w1 hc hi hJ hF hS
            have e4 : a_.eval (.tmp 4) = (.pointer (some ⟨g4_, 0, none⟩)) := (hF.2.2 4 (notDst_of (by kernel_rfl))).trans rfl
            refine wantD (by rfl) ?_
            exact ok_load kA34 hJ e4 (.there (.there (.there (.there .here)))) (Arr.len _) ⟨hJ, rfl⟩
          · intro li_ a_ w1 hc hi hJ hF hS
            have l0 : li_ 0 = true := (hS ⟨0, .data⟩ (by simp) rfl).1
            have e11 : a_.eval (.tmp 11) = (.pointer (some ⟨g11_, 0, none⟩)) := (hF.2.2 11 (notDst_of (by kernel_rfl))).trans rfl
            have e27 : a_.eval (.tmp 27) = s.val := (hS ⟨0, .data⟩ (by simp) rfl).2 _ rfl
            refine wantD (by rfl) ?_
            exact cj6_2 hJ hi e11 e27
          · intro li_ a_ w1 hc hi hJ hF hS
            have l1 : li_ 1 = true := (hS ⟨1, .data⟩ (by simp) rfl).1
            have l2 : li_ 2 = true := (hS ⟨2, .chain⟩ (by simp) rfl).1
            have l0 : li_ 0 = true := (hS ⟨0, .phase⟩ (by simp) rfl).1
            have e12 : a_.eval (.tmp 12) = (.pointer (some ⟨g12_, 0, none⟩)) := (hF.2.2 12 (notDst_of (by kernel_rfl))).trans rfl
            have e28 : a_.eval (.tmp 28) = c.val := (hS ⟨1, .data⟩ (by simp) rfl).2 _ rfl
            refine wantD (by rfl) ?_
            exact cj6_3 hJ hi e12 e28
        intro v0_ h0_ v1_ h1_ v2_ h2_ v3_ h3_
        intro wq hq_
        have q_ : v0_ = s.val := h0_; clear h0_; subst q_
        have q_ : v1_ = c.val := h1_; clear h1_; subst q_
        clear h2_
        clear h3_
        have HQ := hid hq_; clear hq_
        simp only [putsD, Act.put, List.setIfInBounds_toArray, List.set_cons_succ, List.set_cons_zero]
        have hq3_ : Holds w0 S ((g11_, objC s.cells 34) :: (g12_, objC c.cells 34) :: (g10_, objC s.cells 34) :: (g8_, objC Nd0.cells 34) :: (g4_, objC c.cells 34) :: bsOf k) rows wq := HQ.out
        clear HH HQ
        have HH := hid hq3_
        clear hq3_
        go_wp2_with (first
          | ((first
              | ((with_reducible apply wpL_skip); rfl; skip)
              | ((with_reducible apply wpL_shrI (m := i) (k := k) (r := q)); rfl; rfl; rfl; rfl; (exact (by omega)); (exact HQ1.out); rfl)
              | ((with_reducible apply wpL_and (m := q) (n := 1) (r := 1)); rfl; rfl; rfl; rfl; (exact HB1.out); (exact (by decide)); (exact HAND.out); (exact (by decide)); rfl)
              | ((with_reducible apply wpL_callV (dst := some 34) (f := f) (first := #[]) (cap := cap) (args := #[.int .i64 ((k : Int) + 1), s.val, c.val] ++ cap) hf); go_must (rfl); go_must ((first | rfl | (simp only [Array.empty_append]; rfl))); go_must ((exact HVIS.out [(g11_, objC s.cells 34), (g12_, objC c.cells 34), (g10_, objC s.cells 34), (g8_, objC Nd0.cells 34), (g4_, objC c.cells 34)] _ HH.out)); go_must (rfl); go_must ((rintro e_ w2_ ⟨rfl, hq_⟩; refine ⟨_, rfl, ?_⟩; simp only [List.cons_append, List.nil_append] at hq_; clear HH; have HH := hid hq_; clear hq_)))
              | (go_at_call 37; (with_reducible refine (join_any _ ((k : Int) + 1) s c).mono ?_); rw [HC2.out]; rintro e_ w2_ ⟨rfl, hb_⟩; (have hq_ := HH.out.grow hb_); clear HH; have HH := hid hq_; clear hq_ hb_)
              | ((with_reducible apply wpL_nilCheck); rfl; rfl)
              | ((with_reducible apply wpL_loadArr (t := 34) kA34 HH.out); rfl; (first | exact .here | exact .there .here | exact .there (.there .here) | exact .there (.there (.there .here)) | exact .there (.there (.there (.there .here))) | exact .there (.there (.there (.there (.there .here)))) | exact .there (.there (.there (.there (.there (.there .here))))) | exact .there (.there (.there (.there (.there (.there (.there .here))))))); rfl)
              | ((with_reducible apply wpL_loadC (t := 34) kA34 HH.out); rfl; (first | exact .here | exact .there .here | exact .there (.there .here) | exact .there (.there (.there .here)) | exact .there (.there (.there (.there .here))) | exact .there (.there (.there (.there (.there .here)))) | exact .there (.there (.there (.there (.there (.there .here))))) | exact .there (.there (.there (.there (.there (.there (.there .here))))))); (first | rfl | exact Arr.len _ | (simp; done)); rfl)
              | ((with_reducible apply wpL_len (t := 46) Try.underlying46); rfl; rfl)
              | ((with_reducible apply wpL_boxArr (dst := some 4)); rfl; (exact HH.out); rfl; (intro g4_ w_ hq_; (try simp only [List.set_cons_zero, List.set_cons_succ] at hq_); clear HH; have HH := hid hq_; clear hq_))
              | ((with_reducible apply wpL_allocC (dst := some 8) kZ34 HH.out); rfl; (intro g8_ w_ hq_; (try simp only [List.set_cons_zero, List.set_cons_succ] at hq_); clear HH; have HH := hid hq_; clear hq_))
              | ((with_reducible apply wpL_allocC (dst := some 10) kZ34 HH.out); rfl; (intro g10_ w_ hq_; (try simp only [List.set_cons_zero, List.set_cons_succ] at hq_); clear HH; have HH := hid hq_; clear hq_))
              | ((with_reducible apply wpL_allocC (dst := some 11) kZ34 HH.out); rfl; (intro g11_ w_ hq_; (try simp only [List.set_cons_zero, List.set_cons_succ] at hq_); clear HH; have HH := hid hq_; clear hq_))
              | ((with_reducible apply wpL_allocC (dst := some 12) kZ34 HH.out); rfl; (intro g12_ w_ hq_; (try simp only [List.set_cons_zero, List.set_cons_succ] at hq_); clear HH; have HH := hid hq_; clear hq_))
              | ((with_reducible apply wpL_storeArr (t := 34) kS34 HH.out); rfl; rfl; (first | exact .here | exact .there .here | exact .there (.there .here) | exact .there (.there (.there .here)) | exact .there (.there (.there (.there .here))) | exact .there (.there (.there (.there (.there .here)))) | exact .there (.there (.there (.there (.there (.there .here))))) | exact .there (.there (.there (.there (.there (.there (.there .here))))))); (first | rfl | exact Arr.len _ | (simp; done)); rfl; (intro w_ hq_; (try simp only [List.set_cons_zero, List.set_cons_succ] at hq_); clear HH; have HH := hid hq_; clear hq_))
              | ((with_reducible apply wpL_storeC (t := 34)); rfl; rfl; (exact kS34); (exact HH.out); (first | exact .here | exact .there .here | exact .there (.there .here) | exact .there (.there (.there .here)) | exact .there (.there (.there (.there .here))) | exact .there (.there (.there (.there (.there .here)))) | exact .there (.there (.there (.there (.there (.there .here))))) | exact .there (.there (.there (.there (.there (.there (.there .here))))))); (first | rfl | exact Arr.len _ | (simp; done)); (first | rfl | (intro u_ hu_; simp only [List.mem_cons, List.not_mem_nil, or_false] at hu_; rcases hu_ with rfl | hu_; rfl) | exact byt_cell1 _ | exact cells_one _ | exact wrd_one _ | exact flat_cell1 _); (first | rfl | exact Arr.len _ | (simp; done)); rfl; (intro w_ hq_; (try simp only [List.set_cons_zero, List.set_cons_succ] at hq_); clear HH; have HH := hid hq_; clear hq_))
              | ((with_reducible apply wpL_move); rfl; rfl)
              | ((with_reducible apply wpL_assign); rfl; rfl)
              | ((with_reducible apply wpL_pick); rfl; rfl; rfl)
              | ((with_reducible apply wpL_not); rfl; rfl)
              | ((with_reducible apply wpL_cmp (b := true)); rfl; rfl; rfl; (first | rfl | assumption | (simp only [cmpB, decide_eq_true_eq, decide_eq_false_iff_not, beq_iff_eq, bne_iff_ne, ne_eq, beq_eq_false_iff_ne, bne_eq_false_iff_eq, gt_iff_lt, ge_iff_le]; omega) | (simp; omega)); rfl)
              | ((with_reducible apply wpL_cmp (b := false)); rfl; rfl; rfl; (first | rfl | assumption | (simp only [cmpB, decide_eq_true_eq, decide_eq_false_iff_not, beq_iff_eq, bne_iff_ne, ne_eq, beq_eq_false_iff_ne, bne_eq_false_iff_eq, gt_iff_lt, ge_iff_le]; omega) | (simp; omega)); rfl)
              | ((with_reducible apply wpL_cmp); rfl; rfl; rfl; rfl; rfl)
              | ((with_reducible apply wpL_arith); rfl; rfl; rfl; (exact IntWalk.i64_in _ (by (try simp only [arithI]); omega)); rfl)); (try simp only [arithI, Act.put, Act.eval, List.setIfInBounds_toArray, List.set_cons_succ, List.set_cons_zero, Array.getD_eq_getD_getElem?, List.getElem?_toArray, List.getElem?_cons_succ, List.getElem?_cons_zero, Option.getD_some])))
        go_roundw
        case rel => exact ⟨k + 1, by omega, by go_num, HST.out ▸ HH.out.dropBlk.dropBlk.dropBlk⟩
        case measure => simp [intOf]; omega
      · have hpair : pairC i k c s = (c, s) := by unfold pairC; rw [if_neg hbit]
        rw [hpair] at hv hst
        obtain ⟨c2, hc2⟩ : ∃ c2, joinN ((k : Int) + 1) c s = c2 := ⟨_, rfl⟩
        have HC2 := hid hc2
        have HST := hid (show curAt i x p (k + 1) = c2 by rw [hst]; exact hc2)
        have HVIS := hid hv
        have HAND := hid (show q &&& 1 = 0 by rw [Nat.and_one_is_mod, ← HQ1.out]; omega)
        clear hpair hv hst hc2 hbit
        go_wp2_with (first
          | ((first
              | ((with_reducible apply wpL_skip); rfl; skip)
              | ((with_reducible apply wpL_shrI (m := i) (k := k) (r := q)); rfl; rfl; rfl; rfl; (exact (by omega)); (exact HQ1.out); rfl)
              | ((with_reducible apply wpL_and (m := q) (n := 1) (r := 0)); rfl; rfl; rfl; rfl; (exact HB1.out); (exact (by decide)); (exact HAND.out); (exact (by decide)); rfl)
              | ((with_reducible apply wpL_callV (dst := some 34) (f := f) (first := #[]) (cap := cap) (args := #[.int .i64 ((k : Int) + 1), c.val, s.val] ++ cap) hf); go_must (rfl); go_must ((first | rfl | (simp only [Array.empty_append]; rfl))); go_must ((exact HVIS.out [(g11_, objC c.cells 34), (g12_, objC s.cells 34), (g10_, objC s.cells 34), (g8_, objC Nd0.cells 34), (g4_, objC c.cells 34)] _ HH.out)); go_must (rfl); go_must ((rintro e_ w2_ ⟨rfl, hq_⟩; refine ⟨_, rfl, ?_⟩; simp only [List.cons_append, List.nil_append] at hq_; clear HH; have HH := hid hq_; clear hq_)))
              | (go_at_call 37; (with_reducible refine (join_any _ ((k : Int) + 1) c s).mono ?_); rw [HC2.out]; rintro e_ w2_ ⟨rfl, hb_⟩; (have hq_ := HH.out.grow hb_); clear HH; have HH := hid hq_; clear hq_ hb_)
              | ((with_reducible apply wpL_nilCheck); rfl; rfl)
              | ((with_reducible apply wpL_loadArr (t := 34) kA34 HH.out); rfl; (first | exact .here | exact .there .here | exact .there (.there .here) | exact .there (.there (.there .here)) | exact .there (.there (.there (.there .here))) | exact .there (.there (.there (.there (.there .here)))) | exact .there (.there (.there (.there (.there (.there .here))))) | exact .there (.there (.there (.there (.there (.there (.there .here))))))); rfl)
              | ((with_reducible apply wpL_loadC (t := 34) kA34 HH.out); rfl; (first | exact .here | exact .there .here | exact .there (.there .here) | exact .there (.there (.there .here)) | exact .there (.there (.there (.there .here))) | exact .there (.there (.there (.there (.there .here)))) | exact .there (.there (.there (.there (.there (.there .here))))) | exact .there (.there (.there (.there (.there (.there (.there .here))))))); (first | rfl | exact Arr.len _ | (simp; done)); rfl)
              | ((with_reducible apply wpL_len (t := 46) Try.underlying46); rfl; rfl)
              | ((with_reducible apply wpL_boxArr (dst := some 4)); rfl; (exact HH.out); rfl; (intro g4_ w_ hq_; (try simp only [List.set_cons_zero, List.set_cons_succ] at hq_); clear HH; have HH := hid hq_; clear hq_))
              | ((with_reducible apply wpL_allocC (dst := some 8) kZ34 HH.out); rfl; (intro g8_ w_ hq_; (try simp only [List.set_cons_zero, List.set_cons_succ] at hq_); clear HH; have HH := hid hq_; clear hq_))
              | ((with_reducible apply wpL_allocC (dst := some 10) kZ34 HH.out); rfl; (intro g10_ w_ hq_; (try simp only [List.set_cons_zero, List.set_cons_succ] at hq_); clear HH; have HH := hid hq_; clear hq_))
              | ((with_reducible apply wpL_allocC (dst := some 11) kZ34 HH.out); rfl; (intro g11_ w_ hq_; (try simp only [List.set_cons_zero, List.set_cons_succ] at hq_); clear HH; have HH := hid hq_; clear hq_))
              | ((with_reducible apply wpL_allocC (dst := some 12) kZ34 HH.out); rfl; (intro g12_ w_ hq_; (try simp only [List.set_cons_zero, List.set_cons_succ] at hq_); clear HH; have HH := hid hq_; clear hq_))
              | ((with_reducible apply wpL_storeArr (t := 34) kS34 HH.out); rfl; rfl; (first | exact .here | exact .there .here | exact .there (.there .here) | exact .there (.there (.there .here)) | exact .there (.there (.there (.there .here))) | exact .there (.there (.there (.there (.there .here)))) | exact .there (.there (.there (.there (.there (.there .here))))) | exact .there (.there (.there (.there (.there (.there (.there .here))))))); (first | rfl | exact Arr.len _ | (simp; done)); rfl; (intro w_ hq_; (try simp only [List.set_cons_zero, List.set_cons_succ] at hq_); clear HH; have HH := hid hq_; clear hq_))
              | ((with_reducible apply wpL_storeC (t := 34)); rfl; rfl; (exact kS34); (exact HH.out); (first | exact .here | exact .there .here | exact .there (.there .here) | exact .there (.there (.there .here)) | exact .there (.there (.there (.there .here))) | exact .there (.there (.there (.there (.there .here)))) | exact .there (.there (.there (.there (.there (.there .here))))) | exact .there (.there (.there (.there (.there (.there (.there .here))))))); (first | rfl | exact Arr.len _ | (simp; done)); (first | rfl | (intro u_ hu_; simp only [List.mem_cons, List.not_mem_nil, or_false] at hu_; rcases hu_ with rfl | hu_; rfl) | exact byt_cell1 _ | exact cells_one _ | exact wrd_one _ | exact flat_cell1 _); (first | rfl | exact Arr.len _ | (simp; done)); rfl; (intro w_ hq_; (try simp only [List.set_cons_zero, List.set_cons_succ] at hq_); clear HH; have HH := hid hq_; clear hq_))
              | ((with_reducible apply wpL_move); rfl; rfl)
              | ((with_reducible apply wpL_assign); rfl; rfl)
              | ((with_reducible apply wpL_pick); rfl; rfl; rfl)
              | ((with_reducible apply wpL_not); rfl; rfl)
              | ((with_reducible apply wpL_cmp (b := true)); rfl; rfl; rfl; (first | rfl | assumption | (simp only [cmpB, decide_eq_true_eq, decide_eq_false_iff_not, beq_iff_eq, bne_iff_ne, ne_eq, beq_eq_false_iff_ne, bne_eq_false_iff_eq, gt_iff_lt, ge_iff_le]; omega) | (simp; omega)); rfl)
              | ((with_reducible apply wpL_cmp (b := false)); rfl; rfl; rfl; (first | rfl | assumption | (simp only [cmpB, decide_eq_true_eq, decide_eq_false_iff_not, beq_iff_eq, bne_iff_ne, ne_eq, beq_eq_false_iff_ne, bne_eq_false_iff_eq, gt_iff_lt, ge_iff_le]; omega) | (simp; omega)); rfl)
              | ((with_reducible apply wpL_cmp); rfl; rfl; rfl; rfl; rfl)
              | ((with_reducible apply wpL_arith); rfl; rfl; rfl; (exact IntWalk.i64_in _ (by (try simp only [arithI]); omega)); rfl)); (try simp only [arithI, Act.put, Act.eval, List.setIfInBounds_toArray, List.set_cons_succ, List.set_cons_zero, Array.getD_eq_getD_getElem?, List.getElem?_toArray, List.getElem?_cons_succ, List.getElem?_cons_zero, Option.getD_some])))
        go_roundw
        case rel => exact ⟨k + 1, by omega, by go_num, HST.out ▸ HH.out.dropBlk.dropBlk.dropBlk⟩
        case measure => simp [intOf]; omega
    · obtain rfl : k = p.length := by omega
      go_wp2_with (first
        | ((first
            | ((with_reducible apply wpL_skip); rfl; skip)
            | ((with_reducible apply wpL_nilCheck); rfl; rfl)
            | ((with_reducible apply wpL_loadArr (t := 34) kA34 HH.out); rfl; (first | exact .here | exact .there .here | exact .there (.there .here) | exact .there (.there (.there .here)) | exact .there (.there (.there (.there .here))) | exact .there (.there (.there (.there (.there .here)))) | exact .there (.there (.there (.there (.there (.there .here))))) | exact .there (.there (.there (.there (.there (.there (.there .here))))))); rfl)
            | ((with_reducible apply wpL_loadC (t := 34) kA34 HH.out); rfl; (first | exact .here | exact .there .here | exact .there (.there .here) | exact .there (.there (.there .here)) | exact .there (.there (.there (.there .here))) | exact .there (.there (.there (.there (.there .here)))) | exact .there (.there (.there (.there (.there (.there .here))))) | exact .there (.there (.there (.there (.there (.there (.there .here))))))); (first | rfl | exact Arr.len _ | (simp; done)); rfl)
            | ((with_reducible apply wpL_len (t := 46) Try.underlying46); rfl; rfl)
            | ((with_reducible apply wpL_boxArr (dst := some 4)); rfl; (exact HH.out); rfl; (intro g4_ w_ hq_; (try simp only [List.set_cons_zero, List.set_cons_succ] at hq_); clear HH; have HH := hid hq_; clear hq_))
            | ((with_reducible apply wpL_allocC (dst := some 8) kZ34 HH.out); rfl; (intro g8_ w_ hq_; (try simp only [List.set_cons_zero, List.set_cons_succ] at hq_); clear HH; have HH := hid hq_; clear hq_))
            | ((with_reducible apply wpL_allocC (dst := some 10) kZ34 HH.out); rfl; (intro g10_ w_ hq_; (try simp only [List.set_cons_zero, List.set_cons_succ] at hq_); clear HH; have HH := hid hq_; clear hq_))
            | ((with_reducible apply wpL_allocC (dst := some 11) kZ34 HH.out); rfl; (intro g11_ w_ hq_; (try simp only [List.set_cons_zero, List.set_cons_succ] at hq_); clear HH; have HH := hid hq_; clear hq_))
            | ((with_reducible apply wpL_allocC (dst := some 12) kZ34 HH.out); rfl; (intro g12_ w_ hq_; (try simp only [List.set_cons_zero, List.set_cons_succ] at hq_); clear HH; have HH := hid hq_; clear hq_))
            | ((with_reducible apply wpL_storeArr (t := 34) kS34 HH.out); rfl; rfl; (first | exact .here | exact .there .here | exact .there (.there .here) | exact .there (.there (.there .here)) | exact .there (.there (.there (.there .here))) | exact .there (.there (.there (.there (.there .here)))) | exact .there (.there (.there (.there (.there (.there .here))))) | exact .there (.there (.there (.there (.there (.there (.there .here))))))); (first | rfl | exact Arr.len _ | (simp; done)); rfl; (intro w_ hq_; (try simp only [List.set_cons_zero, List.set_cons_succ] at hq_); clear HH; have HH := hid hq_; clear hq_))
            | ((with_reducible apply wpL_storeC (t := 34)); rfl; rfl; (exact kS34); (exact HH.out); (first | exact .here | exact .there .here | exact .there (.there .here) | exact .there (.there (.there .here)) | exact .there (.there (.there (.there .here))) | exact .there (.there (.there (.there (.there .here)))) | exact .there (.there (.there (.there (.there (.there .here))))) | exact .there (.there (.there (.there (.there (.there (.there .here))))))); (first | rfl | exact Arr.len _ | (simp; done)); (first | rfl | (intro u_ hu_; simp only [List.mem_cons, List.not_mem_nil, or_false] at hu_; rcases hu_ with rfl | hu_; rfl) | exact byt_cell1 _ | exact cells_one _ | exact wrd_one _ | exact flat_cell1 _); (first | rfl | exact Arr.len _ | (simp; done)); rfl; (intro w_ hq_; (try simp only [List.set_cons_zero, List.set_cons_succ] at hq_); clear HH; have HH := hid hq_; clear hq_))
            | ((with_reducible apply wpL_move); rfl; rfl)
            | ((with_reducible apply wpL_assign); rfl; rfl)
            | ((with_reducible apply wpL_pick); rfl; rfl; rfl)
            | ((with_reducible apply wpL_not); rfl; rfl)
            | ((with_reducible apply wpL_cmp (b := true)); rfl; rfl; rfl; (first | rfl | assumption | (simp only [cmpB, decide_eq_true_eq, decide_eq_false_iff_not, beq_iff_eq, bne_iff_ne, ne_eq, beq_eq_false_iff_ne, bne_eq_false_iff_eq, gt_iff_lt, ge_iff_le]; omega) | (simp; omega)); rfl)
            | ((with_reducible apply wpL_cmp (b := false)); rfl; rfl; rfl; (first | rfl | assumption | (simp only [cmpB, decide_eq_true_eq, decide_eq_false_iff_not, beq_iff_eq, bne_iff_ne, ne_eq, beq_eq_false_iff_ne, bne_eq_false_iff_eq, gt_iff_lt, ge_iff_le]; omega) | (simp; omega)); rfl)
            | ((with_reducible apply wpL_cmp); rfl; rfl; rfl; rfl; rfl)
            | ((with_reducible apply wpL_arith); rfl; rfl; rfl; (exact IntWalk.i64_in _ (by (try simp only [arithI]); omega)); rfl)); (try simp only [arithI, Act.put, Act.eval, List.setIfInBounds_toArray, List.set_cons_succ, List.set_cons_zero, Array.getD_eq_getD_getElem?, List.getElem?_toArray, List.getElem?_cons_succ, List.getElem?_cons_zero, Option.getD_some])))
      refine bodyPost_ret (res1 rfl (resC kA34 HH.out (by rfl) .here (Arr.len _))) rfl ?_
      exact ⟨rfl, HH.out.dropBlk.dropBlk⟩
end Go.Proofs.Ytgkfopodhikckaa

/- From and Verify of merkle. Condition: at most 10^9 nodes. -/
namespace Go.Proofs.Ytgkfopodhikckaa
open Go.RowKit
attribute [local irreducible] wpQuiet wpList
theorem res0 {P : Program} {w : World} {fn : Func} {tmps : Array Value} (h : fn.results = #[]) : (results fn tmps).run P w = .ok (.tuple #[]) w := by
  rw [results_eq, h]; simp
set_option maxRecDepth 100000 in
set_option maxHeartbeats 2000000 in
theorem from1_any (w : World) (k : Int) (x y : Nd) : Calls Try.prog 77 #[.int .i64 k, x.val, y.val] w (fun e w' => e = .returned (.tuple #[]) ∧ Below w.heap.size w w') := by
  have HH := hid (Holds.init w)
  go_enter Try.func77, Try.ntmps77
  go_wp2_with (first
    | ((first
        | ((with_reducible apply wpL_skip); rfl; skip)
        | ((with_reducible apply wpL_nilCheck); rfl; rfl)
        | ((with_reducible apply wpL_boxArr (dst := some 4)); rfl; (exact HH.out); rfl; (intro g4_ w_ hq_; (try simp only [List.set_cons_zero, List.set_cons_succ] at hq_); clear HH; have HH := hid hq_; clear hq_))
        | ((with_reducible apply wpL_boxArr (dst := some 5)); rfl; (exact HH.out); rfl; (intro g5_ w_ hq_; (try simp only [List.set_cons_zero, List.set_cons_succ] at hq_); clear HH; have HH := hid hq_; clear hq_))
        | ((with_reducible apply wpL_move); rfl; rfl)
        | ((with_reducible apply wpL_assign); rfl; rfl)
        | ((with_reducible apply wpL_pick); rfl; rfl; rfl)
        | ((with_reducible apply wpL_not); rfl; rfl)
        | ((with_reducible apply wpL_cmp (b := true)); rfl; rfl; rfl; (first | rfl | assumption | (simp only [cmpB, decide_eq_true_eq, decide_eq_false_iff_not, beq_iff_eq, bne_iff_ne, ne_eq, beq_eq_false_iff_ne, bne_eq_false_iff_eq, gt_iff_lt, ge_iff_le]; omega) | (simp; omega)); rfl)
        | ((with_reducible apply wpL_cmp (b := false)); rfl; rfl; rfl; (first | rfl | assumption | (simp only [cmpB, decide_eq_true_eq, decide_eq_false_iff_not, beq_iff_eq, bne_iff_ne, ne_eq, beq_eq_false_iff_ne, bne_eq_false_iff_eq, gt_iff_lt, ge_iff_le]; omega) | (simp; omega)); rfl)
        | ((with_reducible apply wpL_cmp); rfl; rfl; rfl; rfl; rfl)
        | ((with_reducible apply wpL_arith); rfl; rfl; rfl; (exact IntWalk.i64_in _ (by (try simp only [arithI]); omega)); rfl)); (try simp only [arithI, Act.put, Act.eval, List.setIfInBounds_toArray, List.set_cons_succ, List.set_cons_zero, Array.getD_eq_getD_getElem?, List.getElem?_toArray, List.getElem?_cons_succ, List.getElem?_cons_zero, Option.getD_some])))
  exact ⟨rfl, _, res0 rfl, rfl, HH.out.dropBlk.dropBlk.below⟩
def fromC (i : Int) (n : Nat) : Int := if 10 < n then 9 else if i < 0 ∨ ((2 ^ n : Nat) : Int) ≤ i then 8 else 0
def fromV (x : Nd) (i : Int) (p : List Nd) : Nd := if fromC i p.length = 0 then curAt i.toNat x p p.length else Nd0
set_option maxRecDepth 100000 in
set_option maxHeartbeats 4000000 in
theorem from_any (w : World) (v : Value) (x : Nd) (i : Int) (p : List Nd) (hp : Arrs w v p) (hn : p.length ≤ 1000000000) : Calls Try.prog 54 #[x.val, .int .i64 i, v] w (RetR w (fromV x i p) (fromC i p.length)) := by
  obtain ⟨ao, cap, rfl, _⟩ := hp.shape
  have HP := hid hp
  clear hp
  have HH := hid (Holds.init w)
  by_cases h10 : 10 < p.length
  · have e1 : fromC i p.length = 9 := by unfold fromC; rw [if_pos h10]
    have e2 : fromV x i p = Nd0 := by unfold fromV; rw [e1]; rfl
    rw [e1, e2]
    clear e1 e2
    go_enter Try.func54, Try.ntmps54
    go_wp2_with (first
      | ((first
          | ((with_reducible apply wpL_skip); rfl; skip)
          | ((with_reducible apply wpList_build (parts := #[]) (v := Nd0.val)); (exact BZ34); rfl)
          | ((with_reducible apply wpL_storeC (t := 34) (vs := Nd0.cells)); rfl; rfl; (exact kS34); (exact HH.out); (exact .here); (exact Arr.len _); (exact cells_one _); (exact Arr.len _); rfl; (intro w_ hq_; clear HH; have HH := hid hq_; clear hq_))
          | ((with_reducible apply wpL_nilCheck); rfl; rfl)
          | ((with_reducible apply wpL_loadArr (t := 34) kA34 HH.out); rfl; (first | exact .here | exact .there .here | exact .there (.there .here) | exact .there (.there (.there .here)) | exact .there (.there (.there (.there .here))) | exact .there (.there (.there (.there (.there .here)))) | exact .there (.there (.there (.there (.there (.there .here))))) | exact .there (.there (.there (.there (.there (.there (.there .here))))))); rfl)
          | ((with_reducible apply wpL_loadC (t := 34) kA34 HH.out); rfl; (first | exact .here | exact .there .here | exact .there (.there .here) | exact .there (.there (.there .here)) | exact .there (.there (.there (.there .here))) | exact .there (.there (.there (.there (.there .here)))) | exact .there (.there (.there (.there (.there (.there .here))))) | exact .there (.there (.there (.there (.there (.there (.there .here))))))); (first | rfl | exact Arr.len _ | (simp; done)); rfl)
          | ((with_reducible apply wpL_len (t := 46) Try.underlying46); rfl; rfl)
          | ((with_reducible apply wpL_boxArr (dst := some 3)); rfl; (exact HH.out); rfl; (intro g3_ w_ hq_; (try simp only [List.set_cons_zero, List.set_cons_succ] at hq_); clear HH; have HH := hid hq_; clear hq_))
          | ((with_reducible apply wpL_allocC (dst := some 6) kZ34 HH.out); rfl; (intro g6_ w_ hq_; (try simp only [List.set_cons_zero, List.set_cons_succ] at hq_); clear HH; have HH := hid hq_; clear hq_))
          | ((with_reducible apply wpL_storeArr (t := 34) kS34 HH.out); rfl; rfl; (first | exact .here | exact .there .here | exact .there (.there .here) | exact .there (.there (.there .here)) | exact .there (.there (.there (.there .here))) | exact .there (.there (.there (.there (.there .here)))) | exact .there (.there (.there (.there (.there (.there .here))))) | exact .there (.there (.there (.there (.there (.there (.there .here))))))); (first | rfl | exact Arr.len _ | (simp; done)); rfl; (intro w_ hq_; (try simp only [List.set_cons_zero, List.set_cons_succ] at hq_); clear HH; have HH := hid hq_; clear hq_))
          | ((with_reducible apply wpL_storeC (t := 34)); rfl; rfl; (exact kS34); (exact HH.out); (first | exact .here | exact .there .here | exact .there (.there .here) | exact .there (.there (.there .here)) | exact .there (.there (.there (.there .here))) | exact .there (.there (.there (.there (.there .here)))) | exact .there (.there (.there (.there (.there (.there .here))))) | exact .there (.there (.there (.there (.there (.there (.there .here))))))); (first | rfl | exact Arr.len _ | (simp; done)); (first | rfl | (intro u_ hu_; simp only [List.mem_cons, List.not_mem_nil, or_false] at hu_; rcases hu_ with rfl | hu_; rfl) | exact byt_cell1 _ | exact cells_one _ | exact wrd_one _ | exact flat_cell1 _); (first | rfl | exact Arr.len _ | (simp; done)); rfl; (intro w_ hq_; (try simp only [List.set_cons_zero, List.set_cons_succ] at hq_); clear HH; have HH := hid hq_; clear hq_))
          | ((with_reducible apply wpL_move); rfl; rfl)
          | ((with_reducible apply wpL_assign); rfl; rfl)
          | ((with_reducible apply wpL_pick); rfl; rfl; rfl)
          | ((with_reducible apply wpL_not); rfl; rfl)
          | ((with_reducible apply wpL_cmp (b := true)); rfl; rfl; rfl; (first | rfl | assumption | (simp only [cmpB, decide_eq_true_eq, decide_eq_false_iff_not, beq_iff_eq, bne_iff_ne, ne_eq, beq_eq_false_iff_ne, bne_eq_false_iff_eq, gt_iff_lt, ge_iff_le]; omega) | (simp; omega)); rfl)
          | ((with_reducible apply wpL_cmp (b := false)); rfl; rfl; rfl; (first | rfl | assumption | (simp only [cmpB, decide_eq_true_eq, decide_eq_false_iff_not, beq_iff_eq, bne_iff_ne, ne_eq, beq_eq_false_iff_ne, bne_eq_false_iff_eq, gt_iff_lt, ge_iff_le]; omega) | (simp; omega)); rfl)
          | ((with_reducible apply wpL_cmp); rfl; rfl; rfl; rfl; rfl)
          | ((with_reducible apply wpL_arith); rfl; rfl; rfl; (exact IntWalk.i64_in _ (by (try simp only [arithI]); omega)); rfl)); (try simp only [arithI, Act.put, Act.eval, List.setIfInBounds_toArray, List.set_cons_succ, List.set_cons_zero, Array.getD_eq_getD_getElem?, List.getElem?_toArray, List.getElem?_cons_succ, List.getElem?_cons_zero, Option.getD_some])))
    refine bodyPost_ret (res2 rfl (resC kA34 HH.out (by rfl) .here (Arr.len _)) (by rfl)) rfl ?_
    exact RetR.mk rfl rfl HH.out.dropBlk.dropBlk.below
  · by_cases h0 : i < 0
    · have e1 : fromC i p.length = 8 := by unfold fromC; rw [if_neg h10, if_pos (.inl h0)]
      have e2 : fromV x i p = Nd0 := by unfold fromV; rw [e1]; rfl
      rw [e1, e2]
      clear e1 e2
      go_enter Try.func54, Try.ntmps54
      go_wp2_with (first
        | ((first
            | ((with_reducible apply wpL_skip); rfl; skip)
            | ((with_reducible apply wpList_build (parts := #[]) (v := Nd0.val)); (exact BZ34); rfl)
            | ((with_reducible apply wpL_storeC (t := 34) (vs := Nd0.cells)); rfl; rfl; (exact kS34); (exact HH.out); (exact .here); (exact Arr.len _); (exact cells_one _); (exact Arr.len _); rfl; (intro w_ hq_; clear HH; have HH := hid hq_; clear hq_))
            | ((with_reducible apply wpL_nilCheck); rfl; rfl)
            | ((with_reducible apply wpL_loadArr (t := 34) kA34 HH.out); rfl; (first | exact .here | exact .there .here | exact .there (.there .here) | exact .there (.there (.there .here)) | exact .there (.there (.there (.there .here))) | exact .there (.there (.there (.there (.there .here)))) | exact .there (.there (.there (.there (.there (.there .here))))) | exact .there (.there (.there (.there (.there (.there (.there .here))))))); rfl)
            | ((with_reducible apply wpL_loadC (t := 34) kA34 HH.out); rfl; (first | exact .here | exact .there .here | exact .there (.there .here) | exact .there (.there (.there .here)) | exact .there (.there (.there (.there .here))) | exact .there (.there (.there (.there (.there .here)))) | exact .there (.there (.there (.there (.there (.there .here))))) | exact .there (.there (.there (.there (.there (.there (.there .here))))))); (first | rfl | exact Arr.len _ | (simp; done)); rfl)
            | ((with_reducible apply wpL_len (t := 46) Try.underlying46); rfl; rfl)
            | ((with_reducible apply wpL_boxArr (dst := some 3)); rfl; (exact HH.out); rfl; (intro g3_ w_ hq_; (try simp only [List.set_cons_zero, List.set_cons_succ] at hq_); clear HH; have HH := hid hq_; clear hq_))
            | ((with_reducible apply wpL_allocC (dst := some 6) kZ34 HH.out); rfl; (intro g6_ w_ hq_; (try simp only [List.set_cons_zero, List.set_cons_succ] at hq_); clear HH; have HH := hid hq_; clear hq_))
            | ((with_reducible apply wpL_storeArr (t := 34) kS34 HH.out); rfl; rfl; (first | exact .here | exact .there .here | exact .there (.there .here) | exact .there (.there (.there .here)) | exact .there (.there (.there (.there .here))) | exact .there (.there (.there (.there (.there .here)))) | exact .there (.there (.there (.there (.there (.there .here))))) | exact .there (.there (.there (.there (.there (.there (.there .here))))))); (first | rfl | exact Arr.len _ | (simp; done)); rfl; (intro w_ hq_; (try simp only [List.set_cons_zero, List.set_cons_succ] at hq_); clear HH; have HH := hid hq_; clear hq_))
            | ((with_reducible apply wpL_storeC (t := 34)); rfl; rfl; (exact kS34); (exact HH.out); (first | exact .here | exact .there .here | exact .there (.there .here) | exact .there (.there (.there .here)) | exact .there (.there (.there (.there .here))) | exact .there (.there (.there (.there (.there .here)))) | exact .there (.there (.there (.there (.there (.there .here))))) | exact .there (.there (.there (.there (.there (.there (.there .here))))))); (first | rfl | exact Arr.len _ | (simp; done)); (first | rfl | (intro u_ hu_; simp only [List.mem_cons, List.not_mem_nil, or_false] at hu_; rcases hu_ with rfl | hu_; rfl) | exact byt_cell1 _ | exact cells_one _ | exact wrd_one _ | exact flat_cell1 _); (first | rfl | exact Arr.len _ | (simp; done)); rfl; (intro w_ hq_; (try simp only [List.set_cons_zero, List.set_cons_succ] at hq_); clear HH; have HH := hid hq_; clear hq_))
            | ((with_reducible apply wpL_move); rfl; rfl)
            | ((with_reducible apply wpL_assign); rfl; rfl)
            | ((with_reducible apply wpL_pick); rfl; rfl; rfl)
            | ((with_reducible apply wpL_not); rfl; rfl)
            | ((with_reducible apply wpL_cmp (b := true)); rfl; rfl; rfl; (first | rfl | assumption | (simp only [cmpB, decide_eq_true_eq, decide_eq_false_iff_not, beq_iff_eq, bne_iff_ne, ne_eq, beq_eq_false_iff_ne, bne_eq_false_iff_eq, gt_iff_lt, ge_iff_le]; omega) | (simp; omega)); rfl)
            | ((with_reducible apply wpL_cmp (b := false)); rfl; rfl; rfl; (first | rfl | assumption | (simp only [cmpB, decide_eq_true_eq, decide_eq_false_iff_not, beq_iff_eq, bne_iff_ne, ne_eq, beq_eq_false_iff_ne, bne_eq_false_iff_eq, gt_iff_lt, ge_iff_le]; omega) | (simp; omega)); rfl)
            | ((with_reducible apply wpL_cmp); rfl; rfl; rfl; rfl; rfl)
            | ((with_reducible apply wpL_arith); rfl; rfl; rfl; (exact IntWalk.i64_in _ (by (try simp only [arithI]); omega)); rfl)); (try simp only [arithI, Act.put, Act.eval, List.setIfInBounds_toArray, List.set_cons_succ, List.set_cons_zero, Array.getD_eq_getD_getElem?, List.getElem?_toArray, List.getElem?_cons_succ, List.getElem?_cons_zero, Option.getD_some])))
      refine bodyPost_ret (res2 rfl (resC kA34 HH.out (by rfl) .here (Arr.len _)) (by rfl)) rfl ?_
      exact RetR.mk rfl rfl HH.out.dropBlk.dropBlk.below
    · obtain ⟨j, rfl⟩ : ∃ j : Nat, i = j := ⟨i.toNat, by omega⟩
      obtain ⟨q, hq⟩ : ∃ q, 2 ^ p.length = q := ⟨_, rfl⟩
      have hq10 : q ≤ 1024 := by rw [← hq]; exact Nat.le_trans (Nat.pow_le_pow_right (by decide) (show p.length ≤ 10 by omega)) (by decide)
      have HQ1 := hid (show 1 * 2 ^ p.length = q by rw [Nat.one_mul, hq])
      have HW := hid (show IntKind.i64.wrap ((q : Nat) : Int) = (q : Int) from IntWalk.i64_in _ (by omega))
      by_cases hj : q ≤ j
      · have e1 : fromC (j : Int) p.length = 8 := by unfold fromC; rw [if_neg h10, if_pos (.inr (by rw [hq]; omega))]
        have e2 : fromV x (j : Int) p = Nd0 := by unfold fromV; rw [e1]; rfl
        rw [e1, e2]
        clear e1 e2 hq
        go_enter Try.func54, Try.ntmps54
        go_wp2_with (first
          | ((first
              | ((with_reducible apply wpL_skip); rfl; skip)
              | ((with_reducible apply wpL_shlP (m := 1) (k := p.length) (r := q)); rfl; rfl; rfl; rfl; (exact (by omega)); (exact HQ1.out); (exact HW.out); rfl)
              | ((with_reducible apply wpList_build (parts := #[]) (v := Nd0.val)); (exact BZ34); rfl)
              | ((with_reducible apply wpL_storeC (t := 34) (vs := Nd0.cells)); rfl; rfl; (exact kS34); (exact HH.out); (exact .here); (exact Arr.len _); (exact cells_one _); (exact Arr.len _); rfl; (intro w_ hq_; clear HH; have HH := hid hq_; clear hq_))
              | ((with_reducible apply wpL_nilCheck); rfl; rfl)
              | ((with_reducible apply wpL_loadArr (t := 34) kA34 HH.out); rfl; (first | exact .here | exact .there .here | exact .there (.there .here) | exact .there (.there (.there .here)) | exact .there (.there (.there (.there .here))) | exact .there (.there (.there (.there (.there .here)))) | exact .there (.there (.there (.there (.there (.there .here))))) | exact .there (.there (.there (.there (.there (.there (.there .here))))))); rfl)
              | ((with_reducible apply wpL_loadC (t := 34) kA34 HH.out); rfl; (first | exact .here | exact .there .here | exact .there (.there .here) | exact .there (.there (.there .here)) | exact .there (.there (.there (.there .here))) | exact .there (.there (.there (.there (.there .here)))) | exact .there (.there (.there (.there (.there (.there .here))))) | exact .there (.there (.there (.there (.there (.there (.there .here))))))); (first | rfl | exact Arr.len _ | (simp; done)); rfl)
              | ((with_reducible apply wpL_len (t := 46) Try.underlying46); rfl; rfl)
              | ((with_reducible apply wpL_boxArr (dst := some 3)); rfl; (exact HH.out); rfl; (intro g3_ w_ hq_; (try simp only [List.set_cons_zero, List.set_cons_succ] at hq_); clear HH; have HH := hid hq_; clear hq_))
              | ((with_reducible apply wpL_allocC (dst := some 6) kZ34 HH.out); rfl; (intro g6_ w_ hq_; (try simp only [List.set_cons_zero, List.set_cons_succ] at hq_); clear HH; have HH := hid hq_; clear hq_))
              | ((with_reducible apply wpL_storeArr (t := 34) kS34 HH.out); rfl; rfl; (first | exact .here | exact .there .here | exact .there (.there .here) | exact .there (.there (.there .here)) | exact .there (.there (.there (.there .here))) | exact .there (.there (.there (.there (.there .here)))) | exact .there (.there (.there (.there (.there (.there .here))))) | exact .there (.there (.there (.there (.there (.there (.there .here))))))); (first | rfl | exact Arr.len _ | (simp; done)); rfl; (intro w_ hq_; (try simp only [List.set_cons_zero, List.set_cons_succ] at hq_); clear HH; have HH := hid hq_; clear hq_))
              | ((with_reducible apply wpL_storeC (t := 34)); rfl; rfl; (exact kS34); (exact HH.out); (first | exact .here | exact .there .here | exact .there (.there .here) | exact .there (.there (.there .here)) | exact .there (.there (.there (.there .here))) | exact .there (.there (.there (.there (.there .here)))) | exact .there (.there (.there (.there (.there (.there .here))))) | exact .there (.there (.there (.there (.there (.there (.there .here))))))); (first | rfl | exact Arr.len _ | (simp; done)); (first | rfl | (intro u_ hu_; simp only [List.mem_cons, List.not_mem_nil, or_false] at hu_; rcases hu_ with rfl | hu_; rfl) | exact byt_cell1 _ | exact cells_one _ | exact wrd_one _ | exact flat_cell1 _); (first | rfl | exact Arr.len _ | (simp; done)); rfl; (intro w_ hq_; (try simp only [List.set_cons_zero, List.set_cons_succ] at hq_); clear HH; have HH := hid hq_; clear hq_))
              | ((with_reducible apply wpL_move); rfl; rfl)
              | ((with_reducible apply wpL_assign); rfl; rfl)
              | ((with_reducible apply wpL_pick); rfl; rfl; rfl)
              | ((with_reducible apply wpL_not); rfl; rfl)
              | ((with_reducible apply wpL_cmp (b := true)); rfl; rfl; rfl; (first | rfl | assumption | (simp only [cmpB, decide_eq_true_eq, decide_eq_false_iff_not, beq_iff_eq, bne_iff_ne, ne_eq, beq_eq_false_iff_ne, bne_eq_false_iff_eq, gt_iff_lt, ge_iff_le]; omega) | (simp; omega)); rfl)
              | ((with_reducible apply wpL_cmp (b := false)); rfl; rfl; rfl; (first | rfl | assumption | (simp only [cmpB, decide_eq_true_eq, decide_eq_false_iff_not, beq_iff_eq, bne_iff_ne, ne_eq, beq_eq_false_iff_ne, bne_eq_false_iff_eq, gt_iff_lt, ge_iff_le]; omega) | (simp; omega)); rfl)
              | ((with_reducible apply wpL_cmp); rfl; rfl; rfl; rfl; rfl)
              | ((with_reducible apply wpL_arith); rfl; rfl; rfl; (exact IntWalk.i64_in _ (by (try simp only [arithI]); omega)); rfl)); (try simp only [arithI, Act.put, Act.eval, List.setIfInBounds_toArray, List.set_cons_succ, List.set_cons_zero, Array.getD_eq_getD_getElem?, List.getElem?_toArray, List.getElem?_cons_succ, List.getElem?_cons_zero, Option.getD_some])))
        refine bodyPost_ret (res2 rfl (resC kA34 HH.out (by rfl) .here (Arr.len _)) (by rfl)) rfl ?_
        exact RetR.mk rfl rfl HH.out.dropBlk.dropBlk.below
      · have e1 : fromC (j : Int) p.length = 0 := by unfold fromC; rw [if_neg h10, if_neg (by rw [hq]; omega)]
        obtain ⟨d, hd⟩ : ∃ d, curAt j x p p.length = d := ⟨_, rfl⟩
        have e2 : fromV x (j : Int) p = d := by unfold fromV; rw [if_pos e1]; exact hd
        have HD := hid hd
        rw [e1, e2]
        clear e1 e2 hq hd
        go_enter Try.func54, Try.ntmps54
        go_wp2_with (first
          | ((first
              | ((with_reducible apply wpL_skip); rfl; skip)
              | ((with_reducible apply wpL_shlP (m := 1) (k := p.length) (r := q)); rfl; rfl; rfl; rfl; (exact (by omega)); (exact HQ1.out); (exact HW.out); rfl)
              | (go_at_call 73; (have hcall_ := hid (climb_any _ _ [] (fun _ => []) [] 77 #[] kB77 (.slice ao p.length cap) x p j (fun bs w1 h1 => h1.sl (HH.out.sl HP.out)) (by omega) (by omega) (Holds.init _) (fun k _ ex w1 h1 => (from1_any w1 _ _ _).mono fun e w2 hq => ⟨hq.1, h1.grow hq.2⟩))); (with_reducible refine hcall_.out.mono ?_); clear hcall_; rw [HD.out]; rintro e_ w2_ ⟨rfl, hb_⟩; (have hq_ := HH.out.grow hb_.below); clear HH; have HH := hid hq_; clear hq_ hb_)
              | ((with_reducible apply wpL_storeC (t := 34) (vs := d.cells)); rfl; rfl; (exact kS34); (exact HH.out); (exact .here); (exact Arr.len _); (exact cells_one _); (exact Arr.len _); rfl; (intro w_ hq_; clear HH; have HH := hid hq_; clear hq_))
              | ((with_reducible apply wpL_nilCheck); rfl; rfl)
              | ((with_reducible apply wpL_loadArr (t := 34) kA34 HH.out); rfl; (first | exact .here | exact .there .here | exact .there (.there .here) | exact .there (.there (.there .here)) | exact .there (.there (.there (.there .here))) | exact .there (.there (.there (.there (.there .here)))) | exact .there (.there (.there (.there (.there (.there .here))))) | exact .there (.there (.there (.there (.there (.there (.there .here))))))); rfl)
              | ((with_reducible apply wpL_loadC (t := 34) kA34 HH.out); rfl; (first | exact .here | exact .there .here | exact .there (.there .here) | exact .there (.there (.there .here)) | exact .there (.there (.there (.there .here))) | exact .there (.there (.there (.there (.there .here)))) | exact .there (.there (.there (.there (.there (.there .here))))) | exact .there (.there (.there (.there (.there (.there (.there .here))))))); (first | rfl | exact Arr.len _ | (simp; done)); rfl)
              | ((with_reducible apply wpL_len (t := 46) Try.underlying46); rfl; rfl)
              | ((with_reducible apply wpL_boxArr (dst := some 3)); rfl; (exact HH.out); rfl; (intro g3_ w_ hq_; (try simp only [List.set_cons_zero, List.set_cons_succ] at hq_); clear HH; have HH := hid hq_; clear hq_))
              | ((with_reducible apply wpL_allocC (dst := some 6) kZ34 HH.out); rfl; (intro g6_ w_ hq_; (try simp only [List.set_cons_zero, List.set_cons_succ] at hq_); clear HH; have HH := hid hq_; clear hq_))
              | ((with_reducible apply wpL_storeArr (t := 34) kS34 HH.out); rfl; rfl; (first | exact .here | exact .there .here | exact .there (.there .here) | exact .there (.there (.there .here)) | exact .there (.there (.there (.there .here))) | exact .there (.there (.there (.there (.there .here)))) | exact .there (.there (.there (.there (.there (.there .here))))) | exact .there (.there (.there (.there (.there (.there (.there .here))))))); (first | rfl | exact Arr.len _ | (simp; done)); rfl; (intro w_ hq_; (try simp only [List.set_cons_zero, List.set_cons_succ] at hq_); clear HH; have HH := hid hq_; clear hq_))
              | ((with_reducible apply wpL_storeC (t := 34)); rfl; rfl; (exact kS34); (exact HH.out); (first | exact .here | exact .there .here | exact .there (.there .here) | exact .there (.there (.there .here)) | exact .there (.there (.there (.there .here))) | exact .there (.there (.there (.there (.there .here)))) | exact .there (.there (.there (.there (.there (.there .here))))) | exact .there (.there (.there (.there (.there (.there (.there .here))))))); (first | rfl | exact Arr.len _ | (simp; done)); (first | rfl | (intro u_ hu_; simp only [List.mem_cons, List.not_mem_nil, or_false] at hu_; rcases hu_ with rfl | hu_; rfl) | exact byt_cell1 _ | exact cells_one _ | exact wrd_one _ | exact flat_cell1 _); (first | rfl | exact Arr.len _ | (simp; done)); rfl; (intro w_ hq_; (try simp only [List.set_cons_zero, List.set_cons_succ] at hq_); clear HH; have HH := hid hq_; clear hq_))
              | ((with_reducible apply wpL_move); rfl; rfl)
              | ((with_reducible apply wpL_assign); rfl; rfl)
              | ((with_reducible apply wpL_pick); rfl; rfl; rfl)
              | ((with_reducible apply wpL_not); rfl; rfl)
              | ((with_reducible apply wpL_cmp (b := true)); rfl; rfl; rfl; (first | rfl | assumption | (simp only [cmpB, decide_eq_true_eq, decide_eq_false_iff_not, beq_iff_eq, bne_iff_ne, ne_eq, beq_eq_false_iff_ne, bne_eq_false_iff_eq, gt_iff_lt, ge_iff_le]; omega) | (simp; omega)); rfl)
              | ((with_reducible apply wpL_cmp (b := false)); rfl; rfl; rfl; (first | rfl | assumption | (simp only [cmpB, decide_eq_true_eq, decide_eq_false_iff_not, beq_iff_eq, bne_iff_ne, ne_eq, beq_eq_false_iff_ne, bne_eq_false_iff_eq, gt_iff_lt, ge_iff_le]; omega) | (simp; omega)); rfl)
              | ((with_reducible apply wpL_cmp); rfl; rfl; rfl; rfl; rfl)
              | ((with_reducible apply wpL_arith); rfl; rfl; rfl; (exact IntWalk.i64_in _ (by (try simp only [arithI]); omega)); rfl)); (try simp only [arithI, Act.put, Act.eval, List.setIfInBounds_toArray, List.set_cons_succ, List.set_cons_zero, Array.getD_eq_getD_getElem?, List.getElem?_toArray, List.getElem?_cons_succ, List.getElem?_cons_zero, Option.getD_some])))
        refine bodyPost_ret (res2 rfl (resC kA34 HH.out (by rfl) .here (Arr.len _)) (by rfl)) rfl ?_
        exact RetR.mk rfl rfl HH.out.dropBlk.dropBlk.below
/-- What Verify answers. -/
def verB (r x : Nd) (i : Int) (p : List Nd) : Bool := fromC i p.length == 0 && fromV x i p == r
set_option maxRecDepth 100000 in
set_option maxHeartbeats 4000000 in
theorem verify_any (w : World) (v : Value) (r x : Nd) (i : Int) (p : List Nd) (hp : Arrs w v p) (hn : p.length ≤ 1000000000) : Calls Try.prog 53 #[r.val, x.val, .int .i64 i, v] w (RetB w (verB r x i p)) := by
  obtain ⟨ao, cap, rfl, _⟩ := hp.shape
  have HP := hid hp
  clear hp
  have HH := hid (Holds.init w)
  obtain ⟨c, hc⟩ : ∃ c, fromC i p.length = c := ⟨_, rfl⟩
  obtain ⟨d, hd⟩ : ∃ d, fromV x i p = d := ⟨_, rfl⟩
  have HC := hid hc
  have HD := hid hd
  obtain ⟨b, hb⟩ : ∃ b, verB r x i p = b := ⟨_, rfl⟩
  have hvb := hb
  unfold verB at hvb
  rw [hc, hd] at hvb
  have HB := hid hvb
  rw [hb]
  clear hb hvb hc hd
  by_cases h0 : c = 0
  · subst h0
    have HE := hid (show (d == r) = b by rw [← HB.out]; simp)
    go_enter Try.func53, Try.ntmps53
    go_wp2_with (first
      | ((first
          | ((with_reducible apply wpL_skip); rfl; skip)
          | (go_at_call 54; (have hcall_ := hid (from_any _ (.slice ao p.length cap) x i p (HH.out.sl HP.out) hn)); (with_reducible refine hcall_.out.mono ?_); clear hcall_; rw [HC.out, HD.out]; rintro e_ w2_ ⟨rfl, hb_⟩; (have hq_ := HH.out.grow hb_); clear HH; have HH := hid hq_; clear hq_ hb_)
          | ((with_reducible apply wpL_eqlA (b := b) (p := d) (q := r) kR34); rfl; rfl; (exact HE.out); rfl)
          | ((with_reducible apply wpL_nilCheck); rfl; rfl)
          | ((with_reducible apply wpL_loadArr (t := 34) kA34 HH.out); rfl; (first | exact .here | exact .there .here | exact .there (.there .here) | exact .there (.there (.there .here)) | exact .there (.there (.there (.there .here))) | exact .there (.there (.there (.there (.there .here)))) | exact .there (.there (.there (.there (.there (.there .here))))) | exact .there (.there (.there (.there (.there (.there (.there .here))))))); rfl)
          | ((with_reducible apply wpL_loadC (t := 34) kA34 HH.out); rfl; (first | exact .here | exact .there .here | exact .there (.there .here) | exact .there (.there (.there .here)) | exact .there (.there (.there (.there .here))) | exact .there (.there (.there (.there (.there .here)))) | exact .there (.there (.there (.there (.there (.there .here))))) | exact .there (.there (.there (.there (.there (.there (.there .here))))))); (first | rfl | exact Arr.len _ | (simp; done)); rfl)
          | ((with_reducible apply wpL_boxArr (dst := some 4)); rfl; (exact HH.out); rfl; (intro g4_ w_ hq_; (try simp only [List.set_cons_zero, List.set_cons_succ] at hq_); clear HH; have HH := hid hq_; clear hq_))
          | ((with_reducible apply wpL_boxArr (dst := some 5)); rfl; (exact HH.out); rfl; (intro g5_ w_ hq_; (try simp only [List.set_cons_zero, List.set_cons_succ] at hq_); clear HH; have HH := hid hq_; clear hq_))
          | ((with_reducible apply wpL_allocC (dst := some 9) kZ34 HH.out); rfl; (intro g9_ w_ hq_; (try simp only [List.set_cons_zero, List.set_cons_succ] at hq_); clear HH; have HH := hid hq_; clear hq_))
          | ((with_reducible apply wpL_storeArr (t := 34) kS34 HH.out); rfl; rfl; (first | exact .here | exact .there .here | exact .there (.there .here) | exact .there (.there (.there .here)) | exact .there (.there (.there (.there .here))) | exact .there (.there (.there (.there (.there .here)))) | exact .there (.there (.there (.there (.there (.there .here))))) | exact .there (.there (.there (.there (.there (.there (.there .here))))))); (first | rfl | exact Arr.len _ | (simp; done)); rfl; (intro w_ hq_; (try simp only [List.set_cons_zero, List.set_cons_succ] at hq_); clear HH; have HH := hid hq_; clear hq_))
          | ((with_reducible apply wpL_storeC (t := 34)); rfl; rfl; (exact kS34); (exact HH.out); (first | exact .here | exact .there .here | exact .there (.there .here) | exact .there (.there (.there .here)) | exact .there (.there (.there (.there .here))) | exact .there (.there (.there (.there (.there .here)))) | exact .there (.there (.there (.there (.there (.there .here))))) | exact .there (.there (.there (.there (.there (.there (.there .here))))))); (first | rfl | exact Arr.len _ | (simp; done)); (first | rfl | (intro u_ hu_; simp only [List.mem_cons, List.not_mem_nil, or_false] at hu_; rcases hu_ with rfl | hu_; rfl) | exact byt_cell1 _ | exact cells_one _ | exact wrd_one _ | exact flat_cell1 _); (first | rfl | exact Arr.len _ | (simp; done)); rfl; (intro w_ hq_; (try simp only [List.set_cons_zero, List.set_cons_succ] at hq_); clear HH; have HH := hid hq_; clear hq_))
          | ((with_reducible apply wpL_move); rfl; rfl)
          | ((with_reducible apply wpL_assign); rfl; rfl)
          | ((with_reducible apply wpL_pick); rfl; rfl; rfl)
          | ((with_reducible apply wpL_not); rfl; rfl)
          | ((with_reducible apply wpL_cmp (b := true)); rfl; rfl; rfl; (first | rfl | assumption | (simp only [cmpB, decide_eq_true_eq, decide_eq_false_iff_not, beq_iff_eq, bne_iff_ne, ne_eq, beq_eq_false_iff_ne, bne_eq_false_iff_eq, gt_iff_lt, ge_iff_le]; omega) | (simp; omega)); rfl)
          | ((with_reducible apply wpL_cmp (b := false)); rfl; rfl; rfl; (first | rfl | assumption | (simp only [cmpB, decide_eq_true_eq, decide_eq_false_iff_not, beq_iff_eq, bne_iff_ne, ne_eq, beq_eq_false_iff_ne, bne_eq_false_iff_eq, gt_iff_lt, ge_iff_le]; omega) | (simp; omega)); rfl)
          | ((with_reducible apply wpL_cmp); rfl; rfl; rfl; rfl; rfl)
          | ((with_reducible apply wpL_arith); rfl; rfl; rfl; (exact IntWalk.i64_in _ (by (try simp only [arithI]); omega)); rfl)); (try simp only [arithI, Act.put, Act.eval, List.setIfInBounds_toArray, List.set_cons_succ, List.set_cons_zero, Array.getD_eq_getD_getElem?, List.getElem?_toArray, List.getElem?_cons_succ, List.getElem?_cons_zero, Option.getD_some])))
    go_ret
    exact RetB.mk rfl HH.out.dropBlk.dropBlk.dropBlk.below
  · have hcb : (c == 0) = false := by simpa using h0
    have HE := hid (show false = b by rw [← HB.out, hcb]; rfl)
    go_enter Try.func53, Try.ntmps53
    go_wp2_with (first
      | ((first
          | ((with_reducible apply wpL_skip); rfl; skip)
          | (go_at_call 54; (have hcall_ := hid (from_any _ (.slice ao p.length cap) x i p (HH.out.sl HP.out) hn)); (with_reducible refine hcall_.out.mono ?_); clear hcall_; rw [HC.out, HD.out]; rintro e_ w2_ ⟨rfl, hb_⟩; (have hq_ := HH.out.grow hb_); clear HH; have HH := hid hq_; clear hq_ hb_)
          | ((with_reducible apply wpL_nilCheck); rfl; rfl)
          | ((with_reducible apply wpL_loadArr (t := 34) kA34 HH.out); rfl; (first | exact .here | exact .there .here | exact .there (.there .here) | exact .there (.there (.there .here)) | exact .there (.there (.there (.there .here))) | exact .there (.there (.there (.there (.there .here)))) | exact .there (.there (.there (.there (.there (.there .here))))) | exact .there (.there (.there (.there (.there (.there (.there .here))))))); rfl)
          | ((with_reducible apply wpL_loadC (t := 34) kA34 HH.out); rfl; (first | exact .here | exact .there .here | exact .there (.there .here) | exact .there (.there (.there .here)) | exact .there (.there (.there (.there .here))) | exact .there (.there (.there (.there (.there .here)))) | exact .there (.there (.there (.there (.there (.there .here))))) | exact .there (.there (.there (.there (.there (.there (.there .here))))))); (first | rfl | exact Arr.len _ | (simp; done)); rfl)
          | ((with_reducible apply wpL_boxArr (dst := some 4)); rfl; (exact HH.out); rfl; (intro g4_ w_ hq_; (try simp only [List.set_cons_zero, List.set_cons_succ] at hq_); clear HH; have HH := hid hq_; clear hq_))
          | ((with_reducible apply wpL_boxArr (dst := some 5)); rfl; (exact HH.out); rfl; (intro g5_ w_ hq_; (try simp only [List.set_cons_zero, List.set_cons_succ] at hq_); clear HH; have HH := hid hq_; clear hq_))
          | ((with_reducible apply wpL_allocC (dst := some 9) kZ34 HH.out); rfl; (intro g9_ w_ hq_; (try simp only [List.set_cons_zero, List.set_cons_succ] at hq_); clear HH; have HH := hid hq_; clear hq_))
          | ((with_reducible apply wpL_storeArr (t := 34) kS34 HH.out); rfl; rfl; (first | exact .here | exact .there .here | exact .there (.there .here) | exact .there (.there (.there .here)) | exact .there (.there (.there (.there .here))) | exact .there (.there (.there (.there (.there .here)))) | exact .there (.there (.there (.there (.there (.there .here))))) | exact .there (.there (.there (.there (.there (.there (.there .here))))))); (first | rfl | exact Arr.len _ | (simp; done)); rfl; (intro w_ hq_; (try simp only [List.set_cons_zero, List.set_cons_succ] at hq_); clear HH; have HH := hid hq_; clear hq_))
          | ((with_reducible apply wpL_storeC (t := 34)); rfl; rfl; (exact kS34); (exact HH.out); (first | exact .here | exact .there .here | exact .there (.there .here) | exact .there (.there (.there .here)) | exact .there (.there (.there (.there .here))) | exact .there (.there (.there (.there (.there .here)))) | exact .there (.there (.there (.there (.there (.there .here))))) | exact .there (.there (.there (.there (.there (.there (.there .here))))))); (first | rfl | exact Arr.len _ | (simp; done)); (first | rfl | (intro u_ hu_; simp only [List.mem_cons, List.not_mem_nil, or_false] at hu_; rcases hu_ with rfl | hu_; rfl) | exact byt_cell1 _ | exact cells_one _ | exact wrd_one _ | exact flat_cell1 _); (first | rfl | exact Arr.len _ | (simp; done)); rfl; (intro w_ hq_; (try simp only [List.set_cons_zero, List.set_cons_succ] at hq_); clear HH; have HH := hid hq_; clear hq_))
          | ((with_reducible apply wpL_move); rfl; rfl)
          | ((with_reducible apply wpL_assign); rfl; rfl)
          | ((with_reducible apply wpL_pick); rfl; rfl; rfl)
          | ((with_reducible apply wpL_not); rfl; rfl)
          | ((with_reducible apply wpL_cmp (b := true)); rfl; rfl; rfl; (first | rfl | assumption | (simp only [cmpB, decide_eq_true_eq, decide_eq_false_iff_not, beq_iff_eq, bne_iff_ne, ne_eq, beq_eq_false_iff_ne, bne_eq_false_iff_eq, gt_iff_lt, ge_iff_le]; omega) | (simp; omega)); rfl)
          | ((with_reducible apply wpL_cmp (b := false)); rfl; rfl; rfl; (first | rfl | assumption | (simp only [cmpB, decide_eq_true_eq, decide_eq_false_iff_not, beq_iff_eq, bne_iff_ne, ne_eq, beq_eq_false_iff_ne, bne_eq_false_iff_eq, gt_iff_lt, ge_iff_le]; omega) | (simp; omega)); rfl)
          | ((with_reducible apply wpL_cmp); rfl; rfl; rfl; rfl; rfl)
          | ((with_reducible apply wpL_arith); rfl; rfl; rfl; (exact IntWalk.i64_in _ (by (try simp only [arithI]); omega)); rfl)); (try simp only [arithI, Act.put, Act.eval, List.setIfInBounds_toArray, List.set_cons_succ, List.set_cons_zero, Array.getD_eq_getD_getElem?, List.getElem?_toArray, List.getElem?_cons_succ, List.getElem?_cons_zero, Option.getD_some])))
    go_ret
    exact RetB.mk HE.out HH.out.dropBlk.dropBlk.dropBlk.below
end Go.Proofs.Ytgkfopodhikckaa

/- The example of the merkle laws. No condition. -/
namespace Go.Proofs.Ytgkfopodhikckaa
open Go.RowKit
attribute [local irreducible] wpQuiet wpList
set_option maxRecDepth 100000 in
theorem leaf_ne : ((sumB (leafPre 0 ++ [97])).1.take 16 == (sumB (leafPre 1 ++ [98])).1.take 16) = false := by rw [sumB_P, sumB_P]; kernel_rfl
theorem leaf_ne' : (!(leafN 0 [97] == leafN 1 [98])) = true := by
  rw [Bool.not_eq_true', beq_eq_false_iff_ne]
  intro e
  have h := leaf_ne
  have e2 : (leafN 0 [97]).1 = (leafN 1 [98]).1 := by rw [e]
  have e3 : (sumB (leafPre 0 ++ [97])).1.take 16 = (sumB (leafPre 1 ++ [98])).1.take 16 := e2
  rw [e3] at h
  simp at h
theorem check_two : checkC 2 = 0 := by decide +kernel
theorem log_two : Nat.log2 2 = 1 := by decide +kernel
theorem root_two (a b : Nd) : rootV [a, b] = joinN 1 a b := by
  unfold rootV rootN
  rw [show [a, b].length = 2 from rfl, if_pos check_two, log_two]
  rfl
theorem ver_two (a b : Nd) : verB (joinN 1 a b) b 1 [a] = true := by
  have e1 : fromC 1 [a].length = 0 := (by decide : fromC 1 1 = 0)
  have e2 : fromV b 1 [a] = joinN 1 a b := by unfold fromV; rw [if_pos e1]; rfl
  unfold verB
  rw [e1, e2]
  simp
set_option maxRecDepth 100000 in
set_option maxHeartbeats 4000000 in
theorem knownM_any (w : World) : Calls Try.prog 23 #[] w (RetB w true) := by
  have HH := hid (Holds.init w)
  obtain ⟨a, ha⟩ : ∃ a, leafN 0 [97] = a := ⟨_, rfl⟩
  obtain ⟨b, hb⟩ : ∃ b, leafN 1 [98] = b := ⟨_, rfl⟩
  have HNE := hid leaf_ne'
  rw [ha, hb] at HNE
  obtain ⟨r, hr⟩ : ∃ r, joinN 1 a b = r := ⟨_, rfl⟩
  have HR := hid (root_two a b)
  have HV := hid (ver_two a b)
  rw [hr] at HR HV
  have HJ := hid hr
  have HA := hid ha
  have HB := hid hb
  have HCK := hid (show checkC [a, b].length = 0 from check_two)
  clear ha hb hr
  go_enter Try.func23, Try.ntmps23
  go_wp2_with (first
    | ((first
        | ((with_reducible apply wpL_skip); rfl; skip)
        | ((with_reducible apply wpL_buildB [97] (dst := some 5)); rfl; rfl; (exact (by omega)); (exact HH.out); rfl; (intro g_ w_ hq_; clear HH; have HH := hid hq_; clear hq_))
        | ((with_reducible apply wpL_buildB [98] (dst := some 8)); rfl; rfl; (exact (by omega)); (exact HH.out); rfl; (intro g_ w_ hq_; clear HH; have HH := hid hq_; clear hq_))
        | ((with_reducible apply wpL_convConst (dst := some 6) (l := [97]) Try.underlying22 Try.underlying5 HH.out); rfl; rfl; rfl; (intro w_ hq_ hb_; clear HH; have HH := hid hq_; have HB6 := hid hb_; clear hq_ hb_))
        | ((with_reducible apply wpL_convConst (dst := some 9) (l := [98]) Try.underlying22 Try.underlying5 HH.out); rfl; rfl; rfl; (intro w_ hq_ hb_; clear HH; have HH := hid hq_; have HB9 := hid hb_; clear hq_ hb_))
        | (go_at_call 45; (have hcall_ := hid (leaf_any _ 0 _ [97] HB6.out (by simp))); (with_reducible refine hcall_.out.mono ?_); clear hcall_; rw [HA.out]; rintro e_ w2_ ⟨rfl, hb_⟩; (have hq_ := HH.out.grow hb_); clear HH; have HH := hid hq_; clear hq_ hb_)
        | (go_at_call 45; (have hcall_ := hid (leaf_any _ 1 _ [98] HB9.out (by simp))); (with_reducible refine hcall_.out.mono ?_); clear hcall_; rw [HB.out]; rintro e_ w2_ ⟨rfl, hb_⟩; (have hq_ := HH.out.grow hb_); clear HH; have HH := hid hq_; clear hq_ hb_)
        | ((with_reducible apply wpList_buildArr (dst := some 14) kE46 [a, b] HH.out); rfl; rfl; (exact (by decide)); rfl; (intro g_ w_ hq_; clear HH; have HH := hid hq_; clear hq_))
        | (go_at_call 38; (have hcall_ := hid (root_any _ _ [a, b] HH.out.sl0 (by simp))); (with_reducible refine hcall_.out.mono ?_); clear hcall_; rw [HR.out, HCK.out]; rintro e_ w2_ ⟨rfl, hb_⟩; (have hq_ := HH.out.grow hb_); clear HH; have HH := hid hq_; clear hq_ hb_)
        | ((with_reducible apply wpL_nilCheck); rfl; rfl)
        | ((with_reducible apply wpL_loadArr (t := 34) kA34 HH.out); rfl; (first | exact .here | exact .there .here | exact .there (.there .here) | exact .there (.there (.there .here)) | exact .there (.there (.there (.there .here))) | exact .there (.there (.there (.there (.there .here)))) | exact .there (.there (.there (.there (.there (.there .here))))) | exact .there (.there (.there (.there (.there (.there (.there .here))))))); rfl)
        | ((with_reducible apply wpL_loadC (t := 34) kA34 HH.out); rfl; (first | exact .here | exact .there .here | exact .there (.there .here) | exact .there (.there (.there .here)) | exact .there (.there (.there (.there .here))) | exact .there (.there (.there (.there (.there .here)))) | exact .there (.there (.there (.there (.there (.there .here))))) | exact .there (.there (.there (.there (.there (.there (.there .here))))))); (first | rfl | exact Arr.len _ | (simp; done)); rfl)
        | ((with_reducible apply wpL_allocC (dst := some 1) kZ34 HH.out); rfl; (intro g1_ w_ hq_; (try simp only [List.set_cons_zero, List.set_cons_succ] at hq_); clear HH; have HH := hid hq_; clear hq_))
        | ((with_reducible apply wpL_allocC (dst := some 2) kZ34 HH.out); rfl; (intro g2_ w_ hq_; (try simp only [List.set_cons_zero, List.set_cons_succ] at hq_); clear HH; have HH := hid hq_; clear hq_))
        | ((with_reducible apply wpL_allocC (dst := some 3) kZ34 HH.out); rfl; (intro g3_ w_ hq_; (try simp only [List.set_cons_zero, List.set_cons_succ] at hq_); clear HH; have HH := hid hq_; clear hq_))
        | ((with_reducible apply wpL_storeArr (t := 34) kS34 HH.out); rfl; rfl; (first | exact .here | exact .there .here | exact .there (.there .here) | exact .there (.there (.there .here)) | exact .there (.there (.there (.there .here))) | exact .there (.there (.there (.there (.there .here)))) | exact .there (.there (.there (.there (.there (.there .here))))) | exact .there (.there (.there (.there (.there (.there (.there .here))))))); (first | rfl | exact Arr.len _ | (simp; done)); rfl; (intro w_ hq_; (try simp only [List.set_cons_zero, List.set_cons_succ] at hq_); clear HH; have HH := hid hq_; clear hq_))
        | ((with_reducible apply wpL_storeC (t := 34)); rfl; rfl; (exact kS34); (exact HH.out); (first | exact .here | exact .there .here | exact .there (.there .here) | exact .there (.there (.there .here)) | exact .there (.there (.there (.there .here))) | exact .there (.there (.there (.there (.there .here)))) | exact .there (.there (.there (.there (.there (.there .here))))) | exact .there (.there (.there (.there (.there (.there (.there .here))))))); (first | rfl | exact Arr.len _ | (simp; done)); (first | rfl | (intro u_ hu_; simp only [List.mem_cons, List.not_mem_nil, or_false] at hu_; rcases hu_ with rfl | hu_; rfl) | exact byt_cell1 _ | exact cells_one _ | exact wrd_one _ | exact flat_cell1 _); (first | rfl | exact Arr.len _ | (simp; done)); rfl; (intro w_ hq_; (try simp only [List.set_cons_zero, List.set_cons_succ] at hq_); clear HH; have HH := hid hq_; clear hq_))
        | ((with_reducible apply wpL_move); rfl; rfl)
        | ((with_reducible apply wpL_assign); rfl; rfl)
        | ((with_reducible apply wpL_pick); rfl; rfl; rfl)
        | ((with_reducible apply wpL_not); rfl; rfl)
        | ((with_reducible apply wpL_cmp (b := true)); rfl; rfl; rfl; (first | rfl | assumption | (simp only [cmpB, decide_eq_true_eq, decide_eq_false_iff_not, beq_iff_eq, bne_iff_ne, ne_eq, beq_eq_false_iff_ne, bne_eq_false_iff_eq, gt_iff_lt, ge_iff_le]; omega) | (simp; omega)); rfl)
        | ((with_reducible apply wpL_cmp (b := false)); rfl; rfl; rfl; (first | rfl | assumption | (simp only [cmpB, decide_eq_true_eq, decide_eq_false_iff_not, beq_iff_eq, bne_iff_ne, ne_eq, beq_eq_false_iff_ne, bne_eq_false_iff_eq, gt_iff_lt, ge_iff_le]; omega) | (simp; omega)); rfl)
        | ((with_reducible apply wpL_cmp); rfl; rfl; rfl; rfl; rfl)
        | ((with_reducible apply wpL_arith); rfl; rfl; rfl; (exact IntWalk.i64_in _ (by (try simp only [arithI]); omega)); rfl)); (try simp only [arithI, Act.put, Act.eval, List.setIfInBounds_toArray, List.set_cons_succ, List.set_cons_zero, Array.getD_eq_getD_getElem?, List.getElem?_toArray, List.getElem?_cons_succ, List.getElem?_cons_zero, Option.getD_some])))
  refine wp_region_tailR 19 [Asr.is (.int .i64 0), Asr.is (.bool true), Asr.is (.bool true), Asr.is a.val, Asr.is b.val, Asr.is (.bool true), Asr.is (.bool true), Asr.is (.bool true), Asr.is r.val, Asr.is a.val, Asr.is b.val, Asr.is r.val, Asr.is (.bool true), Asr.is (.bool true), Asr.is (.bool true), Asr.is r.val, Asr.is b.val, Asr.is a.val, Asr.full w_.heap.size 34 16 1 (flat [a])] HH.out (by kernel_rfl) (by kernel_rfl) (by kernel_rfl) rfl ?_ ?_
  all_goals simp only [List.take_succ_cons, List.take_zero, List.drop_succ_cons, List.drop_zero]
  · refine eachD_cons ?_ (eachD_cons ?_ (eachD_cons ?_ (eachD_cons ?_ (eachD_cons ?_ (eachD_cons ?_ (eachD_cons ?_ (eachD_cons ?_ (eachD_cons ?_ (eachD_cons ?_ (eachD_cons ?_ (eachD_cons ?_ (eachD_cons ?_ (eachD_cons ?_ (eachD_cons ?_ (eachD_cons ?_ (eachD_cons ?_ (eachD_cons ?_ (eachD_cons ?_ (eachD_nil)))))))))))))))))))
    · intro a_ w1 hI hF hS
      have e4 : a_.eval (.tmp 4) = (.int .i64 0) := (hF.2.2 4 (notDst_of (by kernel_rfl))).trans rfl
      refine wantD (by rfl) ?_
      exact op_val rfl (ex_move rfl w1) e4
    · intro a_ w1 hI hF hS
      have e18 : a_.eval (.tmp 18) = (.int .i64 0) := hS ⟨0, .data⟩ (by simp) rfl _ rfl
      refine wantD (by rfl) ?_
      exact op_val rfl (ex_cmp (b := true) rfl e18 (by rfl) (by rfl) w1) rfl
    · intro a_ w1 hI hF hS
      have e19 : a_.eval (.tmp 19) = (.bool true) := hS ⟨1, .data⟩ (by simp) rfl _ rfl
      refine wantD (by rfl) ?_
      exact op_val rfl (ex_move rfl w1) e19
    · intro a_ w1 hI hF hS
      have e1 : a_.eval (.tmp 1) = (.pointer (some ⟨g1_, 0, none⟩)) := (hF.2.2 1 (notDst_of (by kernel_rfl))).trans rfl
      have e20 : a_.eval (.tmp 20) = (.bool true) := hS ⟨2, .guard⟩ (by simp) rfl _ rfl
      refine wantD (wanted_of (j := 2) (b := true) (want := true) (by rfl) (by rfl) e20 rfl) ?_
      exact op_val rfl (ex_loadA kA34 hI.1 e1 (by first | exact .here | exact .there .here | exact .there (.there .here))) rfl
    · intro a_ w1 hI hF hS
      have e2 : a_.eval (.tmp 2) = (.pointer (some ⟨g2_, 0, none⟩)) := (hF.2.2 2 (notDst_of (by kernel_rfl))).trans rfl
      have e20 : a_.eval (.tmp 20) = (.bool true) := hS ⟨2, .guard⟩ (by simp) rfl _ rfl
      refine wantD (wanted_of (j := 2) (b := true) (want := true) (by rfl) (by rfl) e20 rfl) ?_
      exact op_val rfl (ex_loadA kA34 hI.1 e2 (by first | exact .here | exact .there .here | exact .there (.there .here))) rfl
    · intro a_ w1 hI hF hS
      have e21 : a_.eval (.tmp 21) = a.val := hS ⟨3, .data⟩ (by simp) rfl _ rfl
      have e22 : a_.eval (.tmp 22) = b.val := hS ⟨4, .data⟩ (by simp) rfl _ rfl
      have e20 : a_.eval (.tmp 20) = (.bool true) := hS ⟨2, .guard⟩ (by simp) rfl _ rfl
      refine wantD (wanted_of (j := 2) (b := true) (want := true) (by rfl) (by rfl) e20 rfl) ?_
      exact op_val rfl (ex_neq_arr Try.underlying34 Try.underlying5 (by kernel_rfl) (by kernel_rfl) e21 e22 w1) (congrArg Value.bool HNE.out)
    · intro a_ w1 hI hF hS
      have e20 : a_.eval (.tmp 20) = (.bool true) := hS ⟨2, .data⟩ (by simp) rfl _ rfl
      have e23 : a_.eval (.tmp 23) = (.bool true) := hS ⟨5, .data⟩ (by simp) rfl _ rfl
      refine wantD (by rfl) ?_
      exact op_val rfl (ex_pick e20 rfl w1) e23
    · intro a_ w1 hI hF hS
      have e24 : a_.eval (.tmp 24) = (.bool true) := hS ⟨6, .data⟩ (by simp) rfl _ rfl
      refine wantD (by rfl) ?_
      exact op_val rfl (ex_move rfl w1) e24
    · intro a_ w1 hI hF hS
      have e3 : a_.eval (.tmp 3) = (.pointer (some ⟨g3_, 0, none⟩)) := (hF.2.2 3 (notDst_of (by kernel_rfl))).trans rfl
      have e25 : a_.eval (.tmp 25) = (.bool true) := hS ⟨7, .guard⟩ (by simp) rfl _ rfl
      refine wantD (wanted_of (j := 7) (b := true) (want := true) (by rfl) (by rfl) e25 rfl) ?_
      exact op_val rfl (ex_loadA kA34 hI.1 e3 (by first | exact .here | exact .there .here | exact .there (.there .here))) rfl
    · intro a_ w1 hI hF hS
      have e1 : a_.eval (.tmp 1) = (.pointer (some ⟨g1_, 0, none⟩)) := (hF.2.2 1 (notDst_of (by kernel_rfl))).trans rfl
      have e25 : a_.eval (.tmp 25) = (.bool true) := hS ⟨7, .guard⟩ (by simp) rfl _ rfl
      refine wantD (wanted_of (j := 7) (b := true) (want := true) (by rfl) (by rfl) e25 rfl) ?_
      exact op_val rfl (ex_loadA kA34 hI.1 e1 (by first | exact .here | exact .there .here | exact .there (.there .here))) rfl
    · intro a_ w1 hI hF hS
      have e2 : a_.eval (.tmp 2) = (.pointer (some ⟨g2_, 0, none⟩)) := (hF.2.2 2 (notDst_of (by kernel_rfl))).trans rfl
      have e25 : a_.eval (.tmp 25) = (.bool true) := hS ⟨7, .guard⟩ (by simp) rfl _ rfl
      refine wantD (wanted_of (j := 7) (b := true) (want := true) (by rfl) (by rfl) e25 rfl) ?_
      exact op_val rfl (ex_loadA kA34 hI.1 e2 (by first | exact .here | exact .there .here | exact .there (.there .here))) rfl
    · intro a_ w1 hI hF hS
      have e27 : a_.eval (.tmp 27) = a.val := hS ⟨9, .data⟩ (by simp) rfl _ rfl
      have e28 : a_.eval (.tmp 28) = b.val := hS ⟨10, .data⟩ (by simp) rfl _ rfl
      have e25 : a_.eval (.tmp 25) = (.bool true) := hS ⟨7, .chain⟩ (by simp) rfl _ rfl
      refine wantD (wanted_of (j := 7) (b := true) (want := true) (by rfl) (by rfl) e25 rfl) ?_
      exact op_call (args := #[.int .i64 1, a.val, b.val]) kB37 (by show #[_, a_.eval (.tmp 27), a_.eval (.tmp 28)] = _; rw [e27, e28]; rfl) ((join_any w1 1 a b).mono fun e w' ⟨he, hb⟩ => ⟨_, he, hb, by rw [HJ.out]; rfl⟩)
    · intro a_ w1 hI hF hS
      have e26 : a_.eval (.tmp 26) = r.val := hS ⟨8, .data⟩ (by simp) rfl _ rfl
      have e29 : a_.eval (.tmp 29) = r.val := hS ⟨11, .data⟩ (by simp) rfl _ rfl
      have e25 : a_.eval (.tmp 25) = (.bool true) := hS ⟨7, .guard⟩ (by simp) rfl _ rfl
      refine wantD (wanted_of (j := 7) (b := true) (want := true) (by rfl) (by rfl) e25 rfl) ?_
      exact op_val rfl (ex_eql_arr Try.underlying34 Try.underlying5 (by kernel_rfl) (by kernel_rfl) e26 e29 w1) (congrArg Value.bool (arrRefl _))
    · intro a_ w1 hI hF hS
      have e25 : a_.eval (.tmp 25) = (.bool true) := hS ⟨7, .data⟩ (by simp) rfl _ rfl
      have e30 : a_.eval (.tmp 30) = (.bool true) := hS ⟨12, .data⟩ (by simp) rfl _ rfl
      refine wantD (by rfl) ?_
      exact op_val rfl (ex_pick e25 rfl w1) e30
    · intro a_ w1 hI hF hS
      have e31 : a_.eval (.tmp 31) = (.bool true) := hS ⟨13, .data⟩ (by simp) rfl _ rfl
      refine wantD (by rfl) ?_
      exact op_val rfl (ex_move rfl w1) e31
    · intro a_ w1 hI hF hS
      have e3 : a_.eval (.tmp 3) = (.pointer (some ⟨g3_, 0, none⟩)) := (hF.2.2 3 (notDst_of (by kernel_rfl))).trans rfl
      have e32 : a_.eval (.tmp 32) = (.bool true) := hS ⟨14, .guard⟩ (by simp) rfl _ rfl
      refine wantD (wanted_of (j := 14) (b := true) (want := true) (by rfl) (by rfl) e32 rfl) ?_
      exact op_val rfl (ex_loadA kA34 hI.1 e3 (by first | exact .here | exact .there .here | exact .there (.there .here))) rfl
    · intro a_ w1 hI hF hS
      have e2 : a_.eval (.tmp 2) = (.pointer (some ⟨g2_, 0, none⟩)) := (hF.2.2 2 (notDst_of (by kernel_rfl))).trans rfl
      have e32 : a_.eval (.tmp 32) = (.bool true) := hS ⟨14, .guard⟩ (by simp) rfl _ rfl
      refine wantD (wanted_of (j := 14) (b := true) (want := true) (by rfl) (by rfl) e32 rfl) ?_
      exact op_val rfl (ex_loadA kA34 hI.1 e2 (by first | exact .here | exact .there .here | exact .there (.there .here))) rfl
    · intro a_ w1 hI hF hS
      have e1 : a_.eval (.tmp 1) = (.pointer (some ⟨g1_, 0, none⟩)) := (hF.2.2 1 (notDst_of (by kernel_rfl))).trans rfl
      have e32 : a_.eval (.tmp 32) = (.bool true) := hS ⟨14, .guard⟩ (by simp) rfl _ rfl
      refine wantD (wanted_of (j := 14) (b := true) (want := true) (by rfl) (by rfl) e32 rfl) ?_
      exact op_val rfl (ex_loadA kA34 hI.1 e1 (by first | exact .here | exact .there .here | exact .there (.there .here))) rfl
    · intro a_ w1 hI hF hS
      have e35 : a_.eval (.tmp 35) = a.val := hS ⟨17, .data⟩ (by simp) rfl _ rfl
      have e32 : a_.eval (.tmp 32) = (.bool true) := hS ⟨14, .guard⟩ (by simp) rfl _ rfl
      refine wantD (wanted_of (j := 14) (b := true) (want := true) (by rfl) (by rfl) e32 rfl) ?_
      obtain ⟨v_, w_, hr_, hb_, hA_⟩ := ex_buildArr (ρ := a_.eval) kE46 [a] (parts := #[(0, .tmp 35)]) (n := 1) rfl (by simp [e35]) (by decide) w1; exact op_new rfl hr_ hb_ (hA_ _ hI.2.size)
  intro wq hq_ hb_
  intro v0_ h0_ v1_ h1_ v2_ h2_ v3_ h3_ v4_ h4_ v5_ h5_ v6_ h6_ v7_ h7_ v8_ h8_ v9_ h9_ v10_ h10_ v11_ h11_ v12_ h12_ v13_ h13_ v14_ h14_ v15_ h15_ v16_ h16_ v17_ h17_ v18_ h18_
  have q_ : v0_ = (.int .i64 0) := h0_; clear h0_; subst q_
  have q_ : v1_ = (.bool true) := h1_; clear h1_; subst q_
  have q_ : v2_ = (.bool true) := h2_; clear h2_; subst q_
  have q_ : v3_ = a.val := h3_; clear h3_; subst q_
  have q_ : v4_ = b.val := h4_; clear h4_; subst q_
  have q_ : v5_ = (.bool true) := h5_; clear h5_; subst q_
  have q_ : v6_ = (.bool true) := h6_; clear h6_; subst q_
  have q_ : v7_ = (.bool true) := h7_; clear h7_; subst q_
  have q_ : v8_ = r.val := h8_; clear h8_; subst q_
  have q_ : v9_ = a.val := h9_; clear h9_; subst q_
  have q_ : v10_ = b.val := h10_; clear h10_; subst q_
  have q_ : v11_ = r.val := h11_; clear h11_; subst q_
  have q_ : v12_ = (.bool true) := h12_; clear h12_; subst q_
  have q_ : v13_ = (.bool true) := h13_; clear h13_; subst q_
  have q_ : v14_ = (.bool true) := h14_; clear h14_; subst q_
  have q_ : v15_ = r.val := h15_; clear h15_; subst q_
  have q_ : v16_ = b.val := h16_; clear h16_; subst q_
  have q_ : v17_ = a.val := h17_; clear h17_; subst q_
  have K18 := hid h18_; clear h18_
  simp only [endD, putsD, Act.put, List.setIfInBounds_toArray, List.set_cons_succ, List.set_cons_zero]
  have HQ := hid hq_; clear hq_
  have HB_ := hid hb_; clear hb_
  obtain ⟨aa, ca, rfl⟩ := row_shape K18.out.2
  have hq2_ := HH.out.addRow HB_.out K18.out.2
  clear HH HQ K18 HB_
  have HH := hid hq2_
  clear hq2_
  go_wp2_with (first
    | ((first
        | ((with_reducible apply wpL_skip); rfl; skip)
        | (go_at_call 53; (have hcall_ := hid (verify_any _ (.slice aa 1 ca) r b 1 [a] HH.out.sl0 (by simp))); (with_reducible refine hcall_.out.mono ?_); clear hcall_; rw [HV.out]; rintro e_ w2_ ⟨rfl, hb_⟩; (have hq_ := HH.out.grow hb_); clear HH; have HH := hid hq_; clear hq_ hb_)
        | ((with_reducible apply wpL_nilCheck); rfl; rfl)
        | ((with_reducible apply wpL_loadArr (t := 34) kA34 HH.out); rfl; (first | exact .here | exact .there .here | exact .there (.there .here) | exact .there (.there (.there .here)) | exact .there (.there (.there (.there .here))) | exact .there (.there (.there (.there (.there .here)))) | exact .there (.there (.there (.there (.there (.there .here))))) | exact .there (.there (.there (.there (.there (.there (.there .here))))))); rfl)
        | ((with_reducible apply wpL_loadC (t := 34) kA34 HH.out); rfl; (first | exact .here | exact .there .here | exact .there (.there .here) | exact .there (.there (.there .here)) | exact .there (.there (.there (.there .here))) | exact .there (.there (.there (.there (.there .here)))) | exact .there (.there (.there (.there (.there (.there .here))))) | exact .there (.there (.there (.there (.there (.there (.there .here))))))); (first | rfl | exact Arr.len _ | (simp; done)); rfl)
        | ((with_reducible apply wpL_allocC (dst := some 1) kZ34 HH.out); rfl; (intro g1_ w_ hq_; (try simp only [List.set_cons_zero, List.set_cons_succ] at hq_); clear HH; have HH := hid hq_; clear hq_))
        | ((with_reducible apply wpL_allocC (dst := some 2) kZ34 HH.out); rfl; (intro g2_ w_ hq_; (try simp only [List.set_cons_zero, List.set_cons_succ] at hq_); clear HH; have HH := hid hq_; clear hq_))
        | ((with_reducible apply wpL_allocC (dst := some 3) kZ34 HH.out); rfl; (intro g3_ w_ hq_; (try simp only [List.set_cons_zero, List.set_cons_succ] at hq_); clear HH; have HH := hid hq_; clear hq_))
        | ((with_reducible apply wpL_storeArr (t := 34) kS34 HH.out); rfl; rfl; (first | exact .here | exact .there .here | exact .there (.there .here) | exact .there (.there (.there .here)) | exact .there (.there (.there (.there .here))) | exact .there (.there (.there (.there (.there .here)))) | exact .there (.there (.there (.there (.there (.there .here))))) | exact .there (.there (.there (.there (.there (.there (.there .here))))))); (first | rfl | exact Arr.len _ | (simp; done)); rfl; (intro w_ hq_; (try simp only [List.set_cons_zero, List.set_cons_succ] at hq_); clear HH; have HH := hid hq_; clear hq_))
        | ((with_reducible apply wpL_storeC (t := 34)); rfl; rfl; (exact kS34); (exact HH.out); (first | exact .here | exact .there .here | exact .there (.there .here) | exact .there (.there (.there .here)) | exact .there (.there (.there (.there .here))) | exact .there (.there (.there (.there (.there .here)))) | exact .there (.there (.there (.there (.there (.there .here))))) | exact .there (.there (.there (.there (.there (.there (.there .here))))))); (first | rfl | exact Arr.len _ | (simp; done)); (first | rfl | (intro u_ hu_; simp only [List.mem_cons, List.not_mem_nil, or_false] at hu_; rcases hu_ with rfl | hu_; rfl) | exact byt_cell1 _ | exact cells_one _ | exact wrd_one _ | exact flat_cell1 _); (first | rfl | exact Arr.len _ | (simp; done)); rfl; (intro w_ hq_; (try simp only [List.set_cons_zero, List.set_cons_succ] at hq_); clear HH; have HH := hid hq_; clear hq_))
        | ((with_reducible apply wpL_move); rfl; rfl)
        | ((with_reducible apply wpL_assign); rfl; rfl)
        | ((with_reducible apply wpL_pick); rfl; rfl; rfl)
        | ((with_reducible apply wpL_not); rfl; rfl)
        | ((with_reducible apply wpL_cmp (b := true)); rfl; rfl; rfl; (first | rfl | assumption | (simp only [cmpB, decide_eq_true_eq, decide_eq_false_iff_not, beq_iff_eq, bne_iff_ne, ne_eq, beq_eq_false_iff_ne, bne_eq_false_iff_eq, gt_iff_lt, ge_iff_le]; omega) | (simp; omega)); rfl)
        | ((with_reducible apply wpL_cmp (b := false)); rfl; rfl; rfl; (first | rfl | assumption | (simp only [cmpB, decide_eq_true_eq, decide_eq_false_iff_not, beq_iff_eq, bne_iff_ne, ne_eq, beq_eq_false_iff_ne, bne_eq_false_iff_eq, gt_iff_lt, ge_iff_le]; omega) | (simp; omega)); rfl)
        | ((with_reducible apply wpL_cmp); rfl; rfl; rfl; rfl; rfl)
        | ((with_reducible apply wpL_arith); rfl; rfl; rfl; (exact IntWalk.i64_in _ (by (try simp only [arithI]); omega)); rfl)); (try simp only [arithI, Act.put, Act.eval, List.setIfInBounds_toArray, List.set_cons_succ, List.set_cons_zero, Array.getD_eq_getD_getElem?, List.getElem?_toArray, List.getElem?_cons_succ, List.getElem?_cons_zero, Option.getD_some])))
  go_ret
  exact RetB.mk rfl HH.out.dropRow.dropBlk.dropBlk.dropBlk.below
end Go.Proofs.Ytgkfopodhikckaa

/- Elements of an array that lies in a variable; the law MerkleNodes. Condition: at most 300 bytes. -/
namespace Go.Proofs.Ytgkfopodhikckaa
open Go.RowKit
attribute [local irreducible] wpQuiet wpList
section
variable {P : Program} {w0 w : World} {S : List Nat} {bs bs' : List (Nat × Obj)} {rows : List Row} {ops : Array Oper} {rest : List Oper} {a : Act} {Q : Exit → Act → World → Prop} {C : World → Prop} {K : Act → Prop} {ρ : Operand → Value} {dst : Option Tmp} {ty : TypeId} {pos : String} {after : Array Edge} {guard : Option (Nat × Bool)}
theorem ex_indexE {t e : TypeId} {n sz : Nat} {x i : Operand} {g j m : Nat} {q : Int} {k : IntKind} (ht : P.underlying t = some (.array n e)) (he : (P.info? e).map (·.size) = some sz) (h0 : 0 < sz) (hx : ρ x = .pointer (some ⟨g, j, none⟩))
    (hi : ρ i = .int k q) (hq : q = (m : Int)) (hm : m < n) (w : World) :
    (execOp ρ { dst := dst, op := .indexAddr t x i, type := ty, pos := pos, after := after, guard := guard }).run P w = .ok (.value (.pointer (some ⟨g, j + m * sz, none⟩))) w := by
  subst hq
  have hadd : (⟨g, j, none⟩ : Addr).add (m * sz) = ⟨g, j + m * sz, none⟩ := by unfold Addr.add; split <;> simp_all
  have hc : (0 : Int) ≤ (m : Int) ∧ (m : Int) < n := by omega
  simp only [execOp, hx, hi, Instr.indexAt, asIntOf, Sem.run_bind, Sem.run_pure, Result.andThen_ok, run_underlying ht, Instr.sureAddr, run_sizeOf he, hc, and_self, if_true, Int.toNat_natCast, hadd]
theorem wpQ_indexE {t e : TypeId} {n sz : Nat} {x i : Operand} {g j m : Nat} {q : Int} {k : IntKind} (ht : P.underlying t = some (.array n e)) (he : (P.info? e).map (·.size) = some sz) (h0 : 0 < sz) (hx : a.eval x = .pointer (some ⟨g, j, none⟩)) (hi : a.eval i = .int k q) (hq : q = (m : Int)) (hm : m < n)
    (hg : Region.wanted { dst := dst, op := .indexAddr t x i, type := ty, pos := pos, after := after, guard := guard } (yielded ops a.tmps) = true)
    (h : wpQuiet P ops C K rest (a.put dst (.pointer (some ⟨g, j + m * sz, none⟩)))) : wpQuiet P ops C K ({ dst := dst, op := .indexAddr t x i, type := ty, pos := pos, after := after, guard := guard } :: rest) a :=
  wpQuiet_ex hg (fun w _ => ex_indexE (ρ := a.eval) ht he h0 hx hi hq hm w) h
theorem wpL_indexE {t e : TypeId} {n sz : Nat} {x i : Operand} {g j m : Nat} {q : Int} {k : IntKind} (ht : P.underlying t = some (.array n e)) (he : (P.info? e).map (·.size) = some sz) (h0 : 0 < sz) (hx : a.eval x = .pointer (some ⟨g, j, none⟩)) (hi : a.eval i = .int k q) (hq : q = (m : Int)) (hm : m < n)
    (hg : Region.wanted { dst := dst, op := .indexAddr t x i, type := ty, pos := pos, after := after, guard := guard } (yielded ops a.tmps) = true)
    (h : wpList P ops Q rest (a.put dst (.pointer (some ⟨g, j + m * sz, none⟩))) w) : wpList P ops Q ({ dst := dst, op := .indexAddr t x i, type := ty, pos := pos, after := after, guard := guard } :: rest) a w :=
  wpList_ex hg (ex_indexE (ρ := a.eval) ht he h0 hx hi hq hm w) h
end
/-- Two nodes as cells. -/
def pairCs (x y : Nd) : List Value := x.cells ++ y.cells
theorem pair_fst (x y : Nd) : ((pairCs x y).drop 0).take 16 = x.cells := by
  rw [List.drop_zero, pairCs, List.take_left' (Arr.len x)]
theorem pair_snd (x y : Nd) : ((pairCs x y).drop 16).take 16 = y.cells := by
  rw [pairCs, List.drop_left' (Arr.len x)]; exact List.take_of_length_le (by rw [Arr.len]; omega)
/-- A claim's cells. -/
def claimCs (i : Int) (x : Nd) (v : Value) : List Value := .int .i64 i :: (x.cells ++ [v])
end Go.Proofs.Ytgkfopodhikckaa

/- From the walks of the merkle laws to their rows: lists of nodes, pairs of nodes, claims. No condition. -/
namespace Go.Proofs.Ytgkfopodhikckaa
open Go.ChangeShapes Go.WideShapes Go.ChangeAt Go.RowKit
theorem cells41 : Try.prog.cellsOf 41 = 16 := by kernel_rfl
theorem cells79 : Try.prog.cellsOf 79 = 18 := by kernel_rfl
theorem cells30 : Try.prog.cellsOf 30 = 1 := by kernel_rfl
theorem cells3 : Try.prog.cellsOf 3 = 1 := by kernel_rfl
section
variable {H : Type} {enc : TypeId × Value → H} {W : World} {base : Nat}
theorem open_arrsC {P : Program} {ts t e : TypeId} {n : Nat} {fuel : Nat} {cs : List Value} {x : DataW H × List MemPlace} (hs : P.underlying ts = some (.slice t)) (ht : P.underlying t = some (.array n e)) (he : P.underlying e = some (.int .u8)) (hn : 0 < n)
    (hc : P.cellsOf t = n) (hc1 : P.cellsOf e = 1) (h : DataW.trod enc P W base (fun _ => true) true fuel ts cs = some x) :
    ∃ (v : Value) (l : List (Arr n)), cs = [v] ∧ Sl W v n l.length (flat l) := by
  rcases Deep.open_slice hs h with ⟨hcs, _⟩ | ⟨a, len', cap', m, fu, D, Pl, hcs, _, hle, _, hm, rfl, hx⟩
  · exact ⟨_, [], hcs, Sl.nil W n⟩
  · obtain ⟨l, hl, _⟩ := open_arrs hs ht he hn hc hc1 (v := .slice (some a) len' cap') ⟨_, _, _, rfl⟩ (by rw [hcs] at h; exact h)
    obtain ⟨_, _, e, _⟩ := hl.shape
    exact ⟨_, l, hcs, hl⟩
set_option maxRecDepth 100000 in
/-- An argument of type []N. -/
theorem open_nodes {v : Value} {d : DataW H} {p : List MemPlace} (hval : Value.okWide Try.prog W .any base 30 v)
    (h : DataW.Trod enc Try.prog W 0 (fun _ => true) true 30 v d p) : ∃ l : List Nd, Arrs W v l := by
  obtain ⟨fuel, hf⟩ := h
  obtain ⟨l, hl, _⟩ := open_arrs Try.underlying30 Try.underlying41 Try.underlying5 (by omega) cells41 cells5 (okWide_slice Try.underlying30 hval) hf
  exact ⟨l, hl⟩
set_option maxRecDepth 100000 in
/-- An argument of type Claim. -/
theorem open_claim {v : Value} {d : DataW H} {p : List MemPlace} (hval : Value.okWide Try.prog W .any base 79 v)
    (h : DataW.Trod enc Try.prog W 0 (fun _ => true) true 79 v d p) : ∃ (i : Int) (x : Nd) (u : Value) (l : List Nd), (Lit.int .i64 i).wf = true ∧ Arrs W u l ∧ v = .agg (claimCs i x u).toArray := by
  obtain ⟨fuel, hf⟩ := h
  simp only [Value.okWide, Try.underlying79] at hval
  obtain ⟨cs, rfl, _⟩ := hval
  simp only [Value.cells] at hf
  obtain ⟨y0, y1, y2, n, _, hlen, h0, h1, h2⟩ := Deep.trod_struct3 Try.underlying79 hf
  rw [cells79] at hlen
  obtain ⟨i, hi, _, hw⟩ := DataW.trod_int Try.underlying3 h0
  obtain ⟨x, hx⟩ := open_bytes Try.underlying41 Try.underlying5 cells41 cells5 h1
  obtain ⟨u, l, hu, hl⟩ := open_arrsC Try.underlying30 Try.underlying41 Try.underlying5 (by omega) cells41 cells5 h2
  refine ⟨i, x, u, l, hw, hl, ?_⟩
  have e : cs.toList = claimCs i x u := by
    have a0 : (cs.toList.drop 0).take (Try.prog.cellsOf 3) = [.int .i64 i] := hi
    have a1 : (cs.toList.drop 1).take (Try.prog.cellsOf 41) = x.cells := hx
    have a2 : (cs.toList.drop 17).take (Try.prog.cellsOf 30) = [u] := hu
    rw [cells3, List.drop_zero] at a0
    rw [cells41] at a1
    rw [cells30] at a2
    generalize cs.toList = L at *
    have e1 : L = L.take 1 ++ ((L.drop 1).take 16 ++ (L.drop 17).take 1) := by
      conv => lhs; rw [← List.take_append_drop 1 L, ← List.take_append_drop 16 (L.drop 1), List.drop_drop]
      rw [List.take_of_length_le (l := L.drop 17) (by rw [List.length_drop]; omega)]
    rw [e1, a0, a1, a2]
    rfl
  rw [← e, Array.toArray_toList]
end
end Go.Proofs.Ytgkfopodhikckaa

/- Arrays of nodes; Pairs of the reference. Condition: at most 10^9 nodes. -/
namespace Go.Proofs.Ytgkfopodhikckaa
open Go.RowKit
attribute [local irreducible] wpQuiet wpList
section
variable {P : Program}
/-- A literal of an array of arrays. -/
theorem run_buildA {t e : TypeId} {n sz : Nat} {z : Value} (ht : P.underlying t = some (.array n e)) (hs : (P.info? e).map (·.size) = some sz) (hz : (P.info? t).map (·.zero) = some (some z)) (hzl : z.cells.size = n * sz)
    (vs : List Value) (hv : ∀ v ∈ vs, v.cells.size = sz) (hn : vs.length = n) (w : World) :
    (Instr.build t ((vs.zipIdx 0).map fun p => (p.2, p.1)).toArray).run P w = .ok (.agg (vs.flatMap (·.cells.toList)).toArray) w := by
  have hf := fill_parts vs hv [] z.cells.toList 0 (by simp) (by simp [hzl, hn])
  simp only [List.nil_append, Array.toArray_toList] at hf
  simp only [Instr.build, Sem.run_bind, run_zeroValue hz, run_underlying ht, run_sizeOf hs, Result.andThen_ok, hf, Sem.run_pure]
end
/-- Two nodes as one array. -/
def jn (x y : Nd) : Arr 32 := ⟨x.1 ++ y.1, by rw [List.length_append, x.2, y.2]⟩
theorem jn_cells (x y : Nd) : (jn x y).cells = pairCs x y := by simp [jn, Arr.cells, pairCs]
theorem jn_fst (x y : Nd) : ((jn x y).cells.drop 0).take 16 = x.cells := by rw [jn_cells]; exact pair_fst x y
theorem jn_snd (x y : Nd) : ((jn x y).cells.drop 16).take 16 = y.cells := by rw [jn_cells]; exact pair_snd x y
theorem run_pair {P : Program} {t e : TypeId} {z : Value} (ht : P.underlying t = some (.array 2 e)) (hs : (P.info? e).map (·.size) = some 16) (hz : (P.info? t).map (·.zero) = some (some z)) (hzl : z.cells.size = 32) (x y : Nd) (w : World) :
    (Instr.build t #[(0, x.val), (1, y.val)]).run P w = .ok (jn x y).val w := by
  have h := run_buildA (P := P) ht hs hz (by rw [hzl]) [x.val, y.val] (by intro v hv; simp only [List.mem_cons, List.not_mem_nil, or_false] at hv; rcases hv with rfl | rfl <;> exact arr_size _) rfl w
  have e : ([x.val, y.val].flatMap (·.cells.toList)) = (jn x y).cells := by
    rw [jn_cells]; simp [Arr.val, Value.cells, pairCs]
  rw [e] at h
  exact h
section
variable {P : Program} {w0 w : World} {S : List Nat} {bs : List (Nat × Obj)} {rows : List Row} {ops : Array Oper} {rest : List Oper} {a : Act} {Q : Exit → Act → World → Prop} {K : Act → Prop} {dst : Option Tmp} {ty : TypeId} {pos : String} {after : Array Edge} {guard : Option (Nat × Bool)}
theorem wpQ_loadPA {t : TypeId} {n : Nat} (hA : AggT P t n) {v : Arr n} {x : Operand} {g j : Nat} {cs : List Value} {e : TypeId}
    (hx : a.eval x = .pointer (some ⟨g, j, none⟩)) (ho : Own bs g (objC cs e)) (hv : (cs.drop j).take n = v.cells)
    (hg : Region.wanted { dst := dst, op := .load t x, type := ty, pos := pos, after := after, guard := guard } (yielded ops a.tmps) = true)
    (h : wpQuiet P ops (fun w' => Holds w0 S bs rows w') K rest (a.put dst v.val)) : wpQuiet P ops (fun w' => Holds w0 S bs rows w') K ({ dst := dst, op := .load t x, type := ty, pos := pos, after := after, guard := guard } :: rest) a :=
  wpQ_loadPart hA hx ho hv (Arr.len v) hg h
end
/-- The pairs on the way. -/
def pairA (i : Nat) (x : Nd) (p : List Nd) (j : Nat) : Arr 32 := jn (pairC i j (curAt i x p j) (p.getD j Nd0)).1 (pairC i j (curAt i x p j) (p.getD j Nd0)).2
def RetPr (w : World) (ps : List (Arr 32)) (r : Nd) (c : Int) (e : Ending) (w' : World) : Prop :=
  ∃ ao cap, e = .returned (.tuple #[.slice ao ps.length cap, r.val, .int .i64 c]) ∧ w'.ownsRow w.heap.size 73 32 (.slice ao ps.length cap) ps.length (flat ps) ∧ Below w.heap.size w w'
theorem RetPr.no {w w' : World} {ps : List (Arr 32)} {r d : Nd} {b c : Int} (hp : ps = []) (hr : r = d) (h : b = c) (hb : Below w.heap.size w w') : RetPr w ps d c (.returned (.tuple #[.slice none 0 0, r.val, .int .i64 b])) w' := by
  subst hp hr h
  exact ⟨none, 0, rfl, World.ownsRow_nil _ _ _ _, hb⟩
section
variable {P : Program} {w0 w : World} {S : List Nat} {bs : List (Nat × Obj)} {rows : (Nat → Bool) → (Nat → Value) → List Row} {ia is_ sl : Nat} {e : TypeId} {zs vs : List Value} {l : Nat → Bool} {a : Act} {ty : TypeId} {pos : String} {after : Array Edge} {guard : Option (Nat × Bool)}
/-- A region's one new variable: laid by operation ia into slot sl, written by operation is_. -/
def AJ (w0 : World) (S : List Nat) (bs : List (Nat × Obj)) (rows : (Nat → Bool) → (Nat → Value) → List Row) (ia is_ sl : Nat) (e : TypeId) (zs vs : List Value) (l : Nat → Bool) (s : Nat → Value) (w : World) : Prop :=
  Holds w0 S (optB (l ia) (blkF (s sl), selO (l is_) (objC zs e) (objC vs e)) bs) (rows l s) w
theorem aj_alloc (hz : (P.info? e).map (·.zero) = some (some (.agg zs.toArray))) (hJ : AJ w0 S bs rows ia is_ sl e zs vs l (slF a) w) (hi : l ia = false) (h2 : l is_ = false) (hne : is_ ≠ ia) (hr : ∀ v, rows (upd l ia) (updS (slF a) sl v) = rows l (slF a)) :
    OpOK P { dst := some sl, op := .alloc e, type := ty, pos := pos, after := after, guard := guard } a w (fun v w' => AJ w0 S bs rows ia is_ sl e zs vs (upd l ia) (updS (slF a) sl v) w' ∧ isPtr v) := by
  unfold AJ at hJ
  rw [hi, optB_f] at hJ
  refine ok_alloc hz hJ (fun g w' h' => ?_)
  refine ⟨?_, ⟨g, rfl⟩⟩
  unfold AJ
  rw [hr, show upd l ia ia = true by simp [upd], show upd l ia is_ = false by simp [upd, hne, h2], show updS (slF a) sl (.pointer (some ⟨g, 0, none⟩)) sl = .pointer (some ⟨g, 0, none⟩) by simp [updS], optB_t]
  exact h'
theorem aj_store {t : TypeId} {n : Nat} {y : Operand} (hS : (P.info? t).map (·.size) = some n) (hzl : zs.length = n) (hvl : vs.length = n) (h1 : ∀ u ∈ vs, u.oneCell' = true) (hJ : AJ w0 S bs rows ia is_ sl e zs vs l (slF a) w) (la : l ia = true) (hi : l is_ = false) (hne : ia ≠ is_)
    (e1 : isPtr (a.eval (.tmp sl))) (e2 : a.eval y = .agg vs.toArray) (hr : rows (upd l is_) (slF a) = rows l (slF a)) :
    OpOK P { dst := none, op := .store t (.tmp sl) y, type := ty, pos := pos, after := after, guard := guard } a w (fun v w' => AJ w0 S bs rows ia is_ sl e zs vs (upd l is_) (slF a) w' ∧ True) := by
  obtain ⟨g, hg⟩ := e1
  have hs : slF a sl = .pointer (some ⟨g, 0, none⟩) := hg
  unfold AJ at hJ
  rw [la, hi, hs, optB_t] at hJ
  refine ok_store (vs := vs) (cs := zs) (e := e) hg e2 hS hJ .here hvl h1 hzl fun w' h' => ⟨?_, trivial⟩
  unfold AJ
  rw [hr, show upd l is_ ia = true by simp [upd, hne, la], show upd l is_ is_ = true by simp [upd], hs, optB_t]
  exact h'
end
end Go.Proofs.Ytgkfopodhikckaa

/- Every leaf is verified by its path, plainly. Condition: at most ten levels. -/
namespace Go.Proofs.Ytgkfopodhikckaa
open Go.RowKit
/-- Climbing a path yields the levels' nodes. -/
theorem cur_path {l : List Nd} {h k : Nat} (hl : l.length = 2 ^ h) (hh : h ≤ 10) (hk : k < 2 ^ h) : ∀ j, j ≤ h → curAt k (l.getD k Nd0) (pathL l h k) j = (levAt l j).getD (k / 2 ^ j) Nd0
  | 0, _ => by rw [curAt, levAt, Nat.pow_zero, Nat.div_one]
  | j + 1, hj => by
    have ih := cur_path hl hh hk j (by omega)
    have hk10 : k < 1024 := Nat.lt_of_lt_of_le hk (Nat.le_trans (Nat.pow_le_pow_right (by decide) hh) (by decide))
    have hs : (pathL l h k).getD j Nd0 = (levAt l j).getD ((k / 2 ^ j) ^^^ 1) Nd0 := by
      unfold pathL
      rw [List.getD_eq_getElem?_getD, List.getElem?_map, List.getElem?_range (by omega)]
      rfl
    have hm10 : k / 2 ^ j ≤ 1024 := Nat.le_trans (Nat.div_le_self _ _) (by omega)
    have hlen := levAt_len hl (j + 1) hj
    have hq : k / 2 ^ (j + 1) < (levAt l (j + 1)).length := by
      rw [hlen, Nat.div_lt_iff_lt_mul (Nat.two_pow_pos _), ← Nat.pow_add, show h - (j + 1) + (j + 1) = h by omega]
      exact hk
    rw [curAt, ih, hs, (levAt_join hq).2, xor_one hm10]
    have hdiv : k / 2 ^ (j + 1) = k / 2 ^ j / 2 := by rw [Nat.pow_succ, Nat.div_div_eq_div_mul]
    rw [hdiv]
    unfold pairC
    generalize k / 2 ^ j = m
    by_cases hm : m % 2 = 1
    · have h1 : 2 * (m / 2) = m - 1 := by omega
      have h2 : m - 1 + 1 = m := by omega
      rw [if_pos hm, if_neg (by omega), h1, h2]
    · have h1 : 2 * (m / 2) = m := by omega
      rw [if_neg hm, if_pos (by omega), h1]
theorem ver_path {l : List Nd} {k : Nat} (hc : checkC l.length = 0) (hk : k < l.length) : pathC l k = 0 ∧ verB (rootV l) (l.getD k Nd0) k (pathV l k) = true := by
  obtain ⟨h, hh, hl⟩ := check_pow hc
  have e1 : pathC l (k : Int) = 0 := by unfold pathC; rw [if_pos hc, if_neg (by omega)]
  have e2 : pathV l (k : Int) = pathL l h k := by unfold pathV; rw [if_pos e1, hl, Nat.log2_two_pow]; rfl
  refine ⟨e1, ?_⟩
  rw [hl] at hk
  have hp : ((2 ^ h : Nat) : Int) ≤ (k : Int) → False := fun h' => by omega
  have e3 : fromC (k : Int) (pathL l h k).length = 0 := by
    unfold fromC; rw [pathL_len, if_neg (by omega), if_neg (by rintro (h' | h'); omega; exact hp h')]
  have e4 : fromV (l.getD k Nd0) (k : Int) (pathL l h k) = rootV l := by
    unfold fromV
    rw [if_pos e3, pathL_len, Int.toNat_natCast, cur_path hl hh hk h (Nat.le_refl _), Nat.div_eq_of_lt hk]
    unfold rootV rootN
    rw [if_pos hc, hl, Nat.log2_two_pow]
  rw [e2]
  unfold verB
  rw [e3, e4]
  simp
end Go.Proofs.Ytgkfopodhikckaa

/- The law MerkleVerify. Condition: at most 64 leaves, a path of at most 20 nodes. -/
namespace Go.Proofs.Ytgkfopodhikckaa
open Go.RowKit
attribute [local irreducible] wpQuiet wpList
section
variable {P : Program} {w0 w : World} {S : List Nat} {bs : List (Nat × Obj)} {ρ : Operand → Value} {dst : Option Tmp} {ty : TypeId} {pos : String} {after : Array Edge} {guard : Option (Nat × Bool)}
theorem ex_extract {x : Operand} {vs : Array Value} {i : Nat} {v : Value} (hx : ρ x = .tuple vs) (hv : vs[i]? = some v) (w : World) :
    (execOp ρ { dst := dst, op := .extract x i, type := ty, pos := pos, after := after, guard := guard }).run P w = .ok (.value v) w := by
  simp [execOp, hx, hv, Instr.extract]
/-- A row that a call in the region makes. -/
def optR (b : Bool) (r : Row) (l : List Row) : List Row := match b with | true => r :: l | false => l
def rowsO (ir sr : Nat) (e : TypeId) (sz n : Nat) (xs : List Value) (base : List Row) : (Nat → Bool) → (Nat → Value) → List Row := fun l s => optR (l ir) ⟨s sr, e, sz, n, xs⟩ base
variable {rows : (Nat → Bool) → (Nat → Value) → List Row} {ia is_ sl : Nat} {e : TypeId} {zs vs : List Value} {l : Nat → Bool} {s : Nat → Value}
theorem AJ.grow {w' : World} (hJ : AJ w0 S bs rows ia is_ sl e zs vs l s w) (hb : Below w.heap.size w w') : AJ w0 S bs rows ia is_ sl e zs vs l s w' := Holds.grow hJ hb
theorem AJ.addRow {w' : World} {ir sr : Nat} {E : TypeId} {sz n : Nat} {xs : List Value} {base : List Row} {v : Value} (hJ : AJ w0 S bs (rowsO ir sr E sz n xs base) ia is_ sl e zs vs l s w) (hi : l ir = false) (h1 : ia ≠ ir) (h2 : is_ ≠ ir) (h3 : sl ≠ sr)
    (hb : Below w.heap.size w w') (hr : w'.ownsRow w.heap.size E sz v n xs) : AJ w0 S bs (rowsO ir sr E sz n xs base) ia is_ sl e zs vs (upd l ir) (updS s sr v) w' := by
  unfold AJ rowsO at *
  rw [hi] at hJ
  have h := Holds.addRow (show Holds w0 S _ base w from hJ) hb hr
  rw [show upd l ir ia = l ia by simp [upd, h1], show upd l ir is_ = l is_ by simp [upd, h2], show upd l ir ir = true by simp [upd], show updS s sr v sl = s sl by simp [updS, h3], show updS s sr v sr = v by simp [updS]]
  exact h
theorem opF_call {f : FuncId} (hf : Body P f) {a : Act} {d : Tmp} {xs : Array Operand} {ats : Array TypeId} {args : Array Value} {J : (Nat → Value) → World → Prop} {A : Value → Prop} (ha : (xs.toList.map a.eval).toArray = args)
    (hc : Calls P f args w fun e w' => ∃ v, e = .returned v ∧ J (updS (slF a) d v) w' ∧ A v) :
    OpOK P { dst := some d, op := .call { callee := .value (.func f), args := xs, argTypes := ats }, type := ty, pos := pos, after := after, guard := guard } a w (fun v w' => J (stepS { dst := some d, op := .call { callee := .value (.func f), args := xs, argTypes := ats }, type := ty, pos := pos, after := after, guard := guard } (slF a) v) w' ∧ A (slotD { dst := some d, op := .call { callee := .value (.func f), args := xs, argTypes := ats }, type := ty, pos := pos, after := after, guard := guard } v)) := by
  unfold OpOK
  rw [ex_call hf (args := args) (by rw [← ha, ← Array.toList_map, Array.toArray_toList]) w]
  exact hc
end
theorem claim_leaf (i : Int) (x : Nd) (v : Value) : ((claimCs i x v).drop (0 + 1)).take 16 = x.cells := by
  rw [Nat.zero_add, claimCs, List.drop_succ_cons, List.drop_zero, List.take_left' (Arr.len x)]
theorem claim_path (i : Int) (x : Nd) (v : Value) : (claimCs i x v)[0 + 17]? = some v := by
  rw [Nat.zero_add, claimCs, List.getElem?_cons_succ, List.getElem?_append_right (by rw [Arr.len]; exact Nat.le_refl _), Arr.len]; rfl
end Go.Proofs.Ytgkfopodhikckaa

/- A Builder of the call's own: NewBuilder, Add, Len, Pending, Root. Condition: fewer than 1024 leaves for Add. -/
namespace Go.Proofs.Ytgkfopodhikckaa
open Go.RowKit
attribute [local irreducible] wpQuiet wpList
theorem Own.mid (pre : List (Nat × Obj)) (g : Nat) (o : Obj) (post : List (Nat × Obj)) : Own (pre ++ (g, o) :: post) g o := by
  induction pre with
  | nil => exact .here
  | cons p l ih => exact .there ih
theorem Turn.mid (pre : List (Nat × Obj)) (g : Nat) (o o' : Obj) (post : List (Nat × Obj)) : Turn (pre ++ (g, o) :: post) g o o' (pre ++ (g, o') :: post) := by
  induction pre with
  | nil => exact .here
  | cons p l ih => exact .there ih
theorem flat_set {n : Nat} (l : List (Arr n)) (y : Arr n) : ∀ k, k < l.length → flat (l.set k y) = (flat l).take (k * n) ++ y.cells ++ (flat l).drop (k * n + n) := by
  intro k hk
  rw [List.set_eq_take_append_cons_drop, if_pos hk, flat_append, flat_cons, flat_take, show k * n + n = (k + 1) * n by rw [Nat.add_mul, Nat.one_mul], flat_drop, List.append_assoc]
end Go.Proofs.Ytgkfopodhikckaa

/- Two arrays of nodes held against each other; the visits of Collision. No condition. -/
namespace Go.Proofs.Ytgkfopodhikckaa
open Go.RowKit
attribute [local irreducible] wpQuiet wpList
section
variable {P : Program} {w0 w : World} {S : List Nat} {bs bs' : List (Nat × Obj)} {rows : List Row} {ops : Array Oper} {rest : List Oper} {a : Act} {Q : Exit → Act → World → Prop} {C : World → Prop} {K : Act → Prop} {ρ : Operand → Value} {dst : Option Tmp} {ty : TypeId} {pos : String} {after : Array Edge} {guard : Option (Nat × Bool)}
theorem part_agg {e : TypeId} {c : Array Value} {off n u : Nat} (he : P.underlying e = some (.array n u)) {sz : Nat} (hs : (P.info? e).map (·.size) = some sz) (w : World) : (part e c off).run P w = .ok (.agg (c.extract off (off + sz))) w := by
  simp [part, isAgg, run_underlying he, run_sizeOf hs]
theorem jn_split (p : Arr 32) : ∃ x y : Nd, p = jn x y := ⟨⟨p.1.take 16, by simp [p.2]⟩, ⟨p.1.drop 16, by simp [p.2]⟩, Subtype.ext (List.take_append_drop 16 p.1).symm⟩
theorem jn_ext1 (x y : Nd) : (jn x y).cells.toArray.extract 0 16 = x.cells.toArray := by
  have h := jn_fst x y
  rw [List.drop_zero] at h
  simp [h]
theorem jn_ext2 (x y : Nd) : (jn x y).cells.toArray.extract 16 32 = y.cells.toArray := by
  have h := jn_snd x y
  simp [h]
theorem jn_eq (x y x' y' : Nd) : (jn x y == jn x' y') = (x == x' && y == y') := by
  rw [Bool.eq_iff_iff, Bool.and_eq_true, beq_iff_eq, beq_iff_eq, beq_iff_eq]
  constructor
  · intro h
    have h1 : x.1 ++ y.1 = x'.1 ++ y'.1 := congrArg Subtype.val h
    have h2 := List.append_inj h1 (by rw [x.2, x'.2])
    exact ⟨Subtype.ext h2.1, Subtype.ext h2.2⟩
  · rintro ⟨rfl, rfl⟩; rfl
theorem run_equalIn_two {t e u : TypeId} {k : IntKind} (ht : P.underlying t = some (.array 2 e)) (he : P.underlying e = some (.array 16 u)) (hu : P.underlying u = some (.int k)) (hs : (P.info? e).map (·.size) = some 16) (hs1 : (P.info? u).map (·.size) = some 1) (d : Nat) (p q : Arr 32) (w : World) :
    (Op.equalIn (d + 1 + 1 + 1) t p.val q.val).run P w = .ok (p == q) w := by
  obtain ⟨x, y, rfl⟩ := jn_split p
  obtain ⟨x', y', rfl⟩ := jn_split q
  have h2 : ∀ w, (sizeOf e).run P w = .ok 16 w := run_sizeOf hs
  have hp : ∀ (c : Array Value) off w, (part e c off).run P w = .ok (.agg (c.extract off (off + 16))) w := fun c off w => part_agg he hs w
  have hx := run_equalIn_arr (P := P) he hu hs1 d x x'
  have hy := run_equalIn_arr (P := P) he hu hs1 d y y'
  unfold Arr.val at hx hy
  rw [Op.equalIn]
  simp only [Arr.val, Sem.run_bind, run_underlying ht, Result.andThen_ok, h2, Std.Legacy.Range.forIn_eq_forIn_range', Std.Legacy.Range.size, Nat.sub_zero, Nat.add_sub_cancel, Nat.div_one]
  simp only [List.range'_succ, List.range'_zero, List.forIn_cons, List.forIn_nil, Sem.run_bind, hp, Result.andThen_ok, Nat.zero_mul, Nat.zero_add, Nat.one_mul, jn_ext1, jn_ext2, hx, hy, Sem.run_ite, Result.andThen_ite, Sem.run_pure, Nat.reduceAdd]
  rw [jn_eq]
  cases (x == x') <;> cases (y == y') <;> simp
theorem ex_neq_two {t e u yt : TypeId} {k : IntKind} {x y : Operand} {p q : Arr 32} {b : Bool} (ht : P.underlying t = some (.array 2 e)) (he : P.underlying e = some (.array 16 u)) (hu : P.underlying u = some (.int k)) (hs : (P.info? e).map (·.size) = some 16) (hs1 : (P.info? u).map (·.size) = some 1)
    (hgt : P.eqGuardType P.depth t = false) (hx : ρ x = p.val) (hy : ρ y = q.val) (hb : (!(p == q)) = b) (w : World) :
    (execOp ρ { dst := dst, op := .binOp .neq t x y yt, type := ty, pos := pos, after := after, guard := guard }).run P w = .ok (.value (.bool b)) w := by
  subst hb
  have hr := run_equalIn_two (P := P) ht he hu hs hs1 9997 p q w
  have hg := run_eqGuard_agg (P := P) w .neq t x y p.cells.toArray q.cells.toArray hgt
  have hb := run_neq_struct (P := P) w t p.cells.toArray q.cells.toArray
  unfold Arr.val at *
  simp only [execOp, hx, hy, Sem.run_bind, hg, Result.andThen_ok, hb, hr, Sem.run_pure]
end
theorem neq80 {ρ : Operand → Value} {dst : Option Tmp} {ty yt : TypeId} {pos : String} {after : Array Edge} {guard : Option (Nat × Bool)} {x y : Operand} {p q : Arr 32} {b : Bool} (hx : ρ x = p.val) (hy : ρ y = q.val) (hb : (!(p == q)) = b) (w : World) :
    (execOp ρ { dst := dst, op := .binOp .neq 80 x y yt, type := ty, pos := pos, after := after, guard := guard }).run Try.prog w = .ok (.value (.bool b)) w :=
  ex_neq_two Try.underlying80 Try.underlying34 Try.underlying5 kS34 kS5 (by kernel_rfl) hx hy hb w
section
variable {w0 w : World} {S : List Nat} {ops : Array Oper} {rest : List Oper} {a : Act} {C : World → Prop} {K : Act → Prop} {dst : Option Tmp} {ty yt : TypeId} {pos : String} {after : Array Edge} {guard : Option (Nat × Bool)} {x y : Operand} {p q : Arr 32} {b : Bool}
theorem wpQ_neq80 (hx : a.eval x = p.val) (hy : a.eval y = q.val) (hb : (!(p == q)) = b)
    (hg : Region.wanted { dst := dst, op := .binOp .neq 80 x y yt, type := ty, pos := pos, after := after, guard := guard } (yielded ops a.tmps) = true)
    (h : wpQuiet Try.prog ops C K rest (a.put dst (.bool b))) : wpQuiet Try.prog ops C K ({ dst := dst, op := .binOp .neq 80 x y yt, type := ty, pos := pos, after := after, guard := guard } :: rest) a :=
  wpQuiet_ex hg (fun w _ => neq80 (ρ := a.eval) hx hy hb w) h
end
theorem BP80 (x y : Nd) (w : World) : (Instr.build 80 #[(0, x.val), (1, y.val)]).run Try.prog w = .ok (jn x y).val w :=
  run_pair Try.underlying80 kS34 (z := (Arr.zero 32).val) (by kernel_rfl) (by simp [Arr.val, Value.cells, Arr.len]) x y w
abbrev psO (ps : List (Arr 32)) : Obj := objC (flat ps) 131
theorem ps_get {ps : List (Arr 32)} {k : Nat} {d : Arr 32} (h : ps.length = 11) (hk : k < 11) (hd : ps.getD k (Arr.zero 32) = d) : ((flat ps).drop (0 + k * 32)).take 32 = d.cells := by
  rw [Nat.zero_add, flat_drop]
  have hk' : k < ps.length := by omega
  have e : ps[k] = d := by rw [← hd]; simp [hk']
  rw [List.drop_eq_getElem_cons hk', flat_cons, e, List.take_left' (Arr.len d)]
theorem ps_set {ps : List (Arr 32)} {k : Nat} {d : Arr 32} (h : ps.length = 11) (hk : k < 11) : objC ((flat ps).take (0 + k * 32) ++ d.cells ++ (flat ps).drop (0 + k * 32 + 32)) 131 = psO (ps.set k d) := by
  congr 1
  rw [Nat.zero_add, flat_set _ _ _ (by omega)]
set_option maxRecDepth 100000 in
set_option maxHeartbeats 4000000 in
theorem c1_any (w0 w : World) (S : List Nat) (pre post : List (Nat × Obj)) (rows : List Row) (gp k : Nat) (ps : List (Arr 32)) (x y : Nd) (hlen : ps.length = 11) (hk : k < 11) (hH : Holds w0 S (pre ++ (gp, psO ps) :: post) rows w) :
    Calls Try.prog 74 #[.int .i64 (k : Int), x.val, y.val, .pointer (some ⟨gp, 0, none⟩)] w (fun e w' => e = .returned (.tuple #[]) ∧ Holds w0 S (pre ++ (gp, psO (ps.set k (jn x y))) :: post) rows w') := by
  have HH := hid hH
  have HSET := hid (ps_set (d := jn x y) hlen hk)
  have HCL := hid (show 0 + k * 32 + 32 ≤ (flat ps).length by rw [flat_len, hlen]; omega)
  clear hH
  go_enter Try.func74, Try.ntmps74
  go_wp2_with (first
    | ((first
        | ((with_reducible apply wpL_skip); rfl; skip)
        | ((with_reducible apply wpList_build (parts := #[(0, .tmp 8), (1, .tmp 9)]) (v := (jn x y).val)); (exact BP80 x y); rfl)
        | ((with_reducible apply wpL_indexE (m := k) Try.underlying131 kS80 (by decide)); rfl; rfl; rfl; (exact (by omega)); rfl)
        | ((with_reducible apply wpL_storePart (t := 80) (x := .tmp 11) (v := (jn x y).val) (vs := (jn x y).cells) (cs := flat ps) (e := 131)); rfl; rfl; rfl; (exact kS80); (exact HH.out); (exact .there (.there (by rw [HSET.out]; exact Turn.mid _ _ _ _ _))); (exact Arr.len _); (exact cells_one _); (exact HCL.out); rfl; (intro w_ hq_; clear HH; have HH := hid hq_; clear hq_))
        | ((with_reducible apply wpL_nilCheck); rfl; rfl)
        | ((with_reducible apply wpL_loadArr (t := 34) kA34 HH.out); rfl; (first | exact .here | exact .there .here | exact .there (.there .here) | exact .there (.there (.there .here)) | exact .there (.there (.there (.there .here))) | exact .there (.there (.there (.there (.there .here)))) | exact .there (.there (.there (.there (.there (.there .here))))) | exact .there (.there (.there (.there (.there (.there (.there .here))))))); rfl)
        | ((with_reducible apply wpL_loadC (t := 34) kA34 HH.out); rfl; (first | exact .here | exact .there .here | exact .there (.there .here) | exact .there (.there (.there .here)) | exact .there (.there (.there (.there .here))) | exact .there (.there (.there (.there (.there .here)))) | exact .there (.there (.there (.there (.there (.there .here))))) | exact .there (.there (.there (.there (.there (.there (.there .here))))))); (first | rfl | exact Arr.len _ | (simp; done)); rfl)
        | ((with_reducible apply wpL_boxArr (dst := some 5)); rfl; (exact HH.out); rfl; (intro g5_ w_ hq_; (try simp only [List.set_cons_zero, List.set_cons_succ] at hq_); clear HH; have HH := hid hq_; clear hq_))
        | ((with_reducible apply wpL_boxArr (dst := some 6)); rfl; (exact HH.out); rfl; (intro g6_ w_ hq_; (try simp only [List.set_cons_zero, List.set_cons_succ] at hq_); clear HH; have HH := hid hq_; clear hq_))
        | ((with_reducible apply wpL_storeC (t := 80)); rfl; rfl; (exact kS80); (exact HH.out); (first | exact .here | exact .there .here | exact .there (.there .here) | exact .there (.there (.there .here)) | exact .there (.there (.there (.there .here))) | exact .there (.there (.there (.there (.there .here)))) | exact .there (.there (.there (.there (.there (.there .here))))) | exact .there (.there (.there (.there (.there (.there (.there .here))))))); (first | rfl | exact Arr.len _ | (simp; done)); (first | rfl | (intro u_ hu_; simp only [List.mem_cons, List.not_mem_nil, or_false] at hu_; rcases hu_ with rfl | hu_; rfl) | exact byt_cell1 _ | exact cells_one _ | exact wrd_one _ | exact flat_cell1 _); (first | rfl | exact Arr.len _ | (simp; done)); rfl; (intro w_ hq_; (try simp only [List.set_cons_zero, List.set_cons_succ] at hq_); clear HH; have HH := hid hq_; clear hq_))
        | ((with_reducible apply wpL_move); rfl; rfl)
        | ((with_reducible apply wpL_assign); rfl; rfl)
        | ((with_reducible apply wpL_pick); rfl; rfl; rfl)
        | ((with_reducible apply wpL_not); rfl; rfl)
        | ((with_reducible apply wpL_cmp (b := true)); rfl; rfl; rfl; (first | rfl | assumption | (simp only [cmpB, decide_eq_true_eq, decide_eq_false_iff_not, beq_iff_eq, bne_iff_ne, ne_eq, beq_eq_false_iff_ne, bne_eq_false_iff_eq, gt_iff_lt, ge_iff_le]; omega) | (simp; omega)); rfl)
        | ((with_reducible apply wpL_cmp (b := false)); rfl; rfl; rfl; (first | rfl | assumption | (simp only [cmpB, decide_eq_true_eq, decide_eq_false_iff_not, beq_iff_eq, bne_iff_ne, ne_eq, beq_eq_false_iff_ne, bne_eq_false_iff_eq, gt_iff_lt, ge_iff_le]; omega) | (simp; omega)); rfl)
        | ((with_reducible apply wpL_cmp); rfl; rfl; rfl; rfl; rfl)
        | ((with_reducible apply wpL_arith); rfl; rfl; rfl; (exact IntWalk.i64_in _ (by (try simp only [arithI]); omega)); rfl)); (try simp only [arithI, Act.put, Act.eval, List.setIfInBounds_toArray, List.set_cons_succ, List.set_cons_zero, Array.getD_eq_getD_getElem?, List.getElem?_toArray, List.getElem?_cons_succ, List.getElem?_cons_zero, Option.getD_some])))
  exact ⟨rfl, _, res0 rfl, rfl, HH.out.dropBlk.dropBlk⟩
/-- A Two's cells. -/
abbrev twoCs (lev : Int) (a b : Arr 32) : List Value := .int .i64 lev :: (a.cells ++ b.cells)
theorem two_len (lev : Int) (a b : Arr 32) : (twoCs lev a b).length = 65 := by simp [Arr.len]
theorem two_a (lev : Int) (a b : Arr 32) : ((twoCs lev a b).drop (0 + 1)).take 32 = a.cells := by
  rw [Nat.zero_add, List.drop_succ_cons, List.drop_zero, List.take_left' (Arr.len a)]
theorem two_b (lev : Int) (a b : Arr 32) : ((twoCs lev a b).drop (0 + 33)).take 32 = b.cells := by
  rw [Nat.zero_add, List.drop_succ_cons, List.drop_left' (Arr.len a)]; exact List.take_of_length_le (by rw [Arr.len]; omega)
end Go.Proofs.Ytgkfopodhikckaa

/- Collision of merkle. Condition: at most 10^9 nodes. -/
namespace Go.Proofs.Ytgkfopodhikckaa
open Go.RowKit
attribute [local irreducible] wpQuiet wpList
section
variable {P : Program} {w0 w : World} {S : List Nat} {bs bs' PRE POST : List (Nat × Obj)} {rows : List Row} {ops : Array Oper} {rest : List Oper} {a : Act} {Q : Exit → Act → World → Prop} {ρ : Operand → Value} {dst : Option Tmp} {ty : TypeId} {pos : String} {after : Array Edge} {guard : Option (Nat × Bool)} {R : Value → World → Prop}
theorem ok_storeP {t : TypeId} {x y : Operand} {g j : Nat} {vs cs : List Value} {sz : Nat} {v : Value} {e : TypeId}
    (hx : a.eval x = .pointer (some ⟨g, j, none⟩)) (hy : a.eval y = v) (hvs : v.cells.toList = vs) (hi : (P.info? t).map (·.size) = some sz)
    (hH : Holds w0 S bs rows w) (ht : Turn bs g (objC cs e) (objC (cs.take j ++ vs ++ cs.drop (j + sz)) e) bs') (hv : vs.length = sz) (h1 : ∀ u ∈ vs, u.oneCell' = true) (hc : j + sz ≤ cs.length)
    (h : ∀ w', Holds w0 S bs' rows w' → R undef w') :
    OpOK P { dst := dst, op := .store t x y, type := ty, pos := pos, after := after, guard := guard } a w R := by
  subst hvs
  have hblk : w.heap[g]? = some (.cells cs.toArray e (0, 0)) := hH.at ht.own
  have hs := run_storeCells_at P g j e v.cells.toList 0 cs.toArray w hblk (by simp at hv ⊢; omega) h1
  simp only [Nat.add_zero, hv] at hs
  have hvz : v.cells.size = sz := by simpa using hv
  have hr : (execOp a.eval { dst := dst, op := .store t x y, type := ty, pos := pos, after := after, guard := guard }).run P w = .ok .skip (w.setRow g (cs.take j ++ v.cells.toList ++ cs.drop (j + sz)).toArray) := by
    simp only [execOp, hx, hy, Instr.storeAt, Instr.sureAddr, storeVar, Sem.run_bind, Sem.run_pure, Result.andThen_ok, run_sizeOf hi, hvz, ne_eq, not_true_eq_false, if_false, hs]
  unfold OpOK
  rw [hr]
  exact h _ (hH.turn ht (setRow_heap w g cs.toArray _ e (0, 0) hblk) rfl rfl rfl (by simp) fun k _ hk => setRow_other w g k _ hk)
/-- Some writes into one variable, one after the other. -/
def StJ (w0 : World) (S : List Nat) (PRE POST : List (Nat × Obj)) (rows : List Row) (go : Nat) (st : (Nat → Bool) → Obj) (l : Nat → Bool) (_ : Nat → Value) (w : World) : Prop := Holds w0 S (PRE ++ (go, st l) :: POST) rows w
theorem stJ_store {st : (Nat → Bool) → Obj} {l : Nat → Bool} {i go : Nat} {t : TypeId} {x y : Operand} {j : Nat} {vs cs cs2 : List Value} {sz : Nat} {v : Value} {e : TypeId} (hJ : StJ w0 S PRE POST rows go st l (slF a) w) (h0 : st l = objC cs e) (h1 : st (upd l i) = objC cs2 e)
    (hcs : cs.take j ++ vs ++ cs.drop (j + sz) = cs2) (hx : a.eval x = .pointer (some ⟨go, j, none⟩)) (hy : a.eval y = v) (hvs : v.cells.toList = vs) (hi : (P.info? t).map (·.size) = some sz) (hv : vs.length = sz) (ho : ∀ u ∈ vs, u.oneCell' = true) (hc : j + sz ≤ cs.length) :
    OpOK P { dst := none, op := .store t x y, type := ty, pos := pos, after := after, guard := guard } a w (fun v w' => StJ w0 S PRE POST rows go st (upd l i) (slF a) w' ∧ True) := by
  unfold StJ at *
  rw [h0] at hJ
  refine ok_storeP hx hy hvs hi hJ (Turn.mid _ _ _ _ _) hv ho hc fun w' h' => ⟨?_, trivial⟩
  rw [h1, ← hcs]
  exact h'
theorem wpL_makeFunc {f : FuncId} {cap : Array Operand} {vs : Array Value} (hv : cap.map a.eval = vs)
    (hg : Region.wanted { dst := dst, op := .makeFunc (.func f) #[] cap, type := ty, pos := pos, after := after, guard := guard } (yielded ops a.tmps) = true)
    (h : wpList P ops Q rest (a.put dst (.func (.func f) #[] vs)) w) : wpList P ops Q ({ dst := dst, op := .makeFunc (.func f) #[] cap, type := ty, pos := pos, after := after, guard := guard } :: rest) a w :=
  wpList_ex hg (by simp [execOp, Instr.makeFunc, hv]) h
end
abbrev zP : Arr 32 := Arr.zero 32
abbrev twoO (lev : Int) (a b : Arr 32) : Obj := objC (twoCs lev a b) 82
theorem two_st0 (l0 : Int) (a b : Arr 32) (lev : Int) : (twoCs l0 a b).take (0 + 0) ++ [.int .i64 lev] ++ (twoCs l0 a b).drop (0 + 0 + 1) = twoCs lev a b := by simp
theorem two_st1 (l0 : Int) (a b d : Arr 32) : (twoCs l0 a b).take (0 + 1) ++ d.cells ++ (twoCs l0 a b).drop (0 + 1 + 32) = twoCs l0 d b := by
  rw [Nat.zero_add, List.take_succ_cons, List.take_zero, show 1 + 32 = 32 + 1 by rfl, List.drop_succ_cons, List.drop_left' (Arr.len a)]; rfl
theorem two_st2 (l0 : Int) (a b d : Arr 32) : (twoCs l0 a b).take (0 + 33) ++ d.cells ++ (twoCs l0 a b).drop (0 + 33 + 32) = twoCs l0 a d := by
  rw [List.drop_eq_nil_of_le (by rw [two_len]; decide), Nat.zero_add, List.take_succ_cons, List.take_left' (Arr.len a), List.append_nil]; rfl
theorem two_stA (l0 : Int) (a b : Arr 32) : (twoCs l0 a b).take 0 ++ twoCs 0 zP zP ++ (twoCs l0 a b).drop (0 + 65) = twoCs 0 zP zP := by
  rw [List.drop_eq_nil_of_le (by rw [two_len]; decide), List.take_zero, List.nil_append, List.append_nil]
theorem two_one (lev : Int) (a b : Arr 32) : ∀ u ∈ twoCs lev a b, u.oneCell' = true := by
  intro u hu
  rcases List.mem_cons.1 hu with rfl | hu
  · rfl
  · rcases List.mem_append.1 hu with hu | hu <;> exact cells_one _ u hu
/-- What the second visit leaves. -/
def outN (ps : List (Arr 32)) (lev : Nat) (p : Arr 32) (o : Int × Arr 32 × Arr 32) : Int × Arr 32 × Arr 32 := if p = ps.getD lev zP then o else ((lev : Int), ps.getD lev zP, p)
def st75 (l0 : Int) (a0 b0 : Arr 32) (lev : Int) (d p : Arr 32) (l : Nat → Bool) : Obj := selO (l 5) (twoO l0 a0 b0) (selO (l 7) (twoO 0 zP zP) (selO (l 9) (twoO lev zP zP) (selO (l 11) (twoO lev d zP) (twoO lev d p))))
set_option maxRecDepth 100000 in
set_option maxHeartbeats 8000000 in
theorem c2_any (w0 w : World) (S : List Nat) (pre post : List (Nat × Obj)) (rows : List Row) (gp go lev : Nat) (ps : List (Arr 32)) (x y : Nd) (o : Int × Arr 32 × Arr 32) (hlen : ps.length = 11) (hk : lev < 11)
    (hH : Holds w0 S (pre ++ (go, twoO o.1 o.2.1 o.2.2) :: (gp, psO ps) :: post) rows w) :
    Calls Try.prog 75 #[.int .i64 (lev : Int), x.val, y.val, .pointer (some ⟨gp, 0, none⟩), .pointer (some ⟨go, 0, none⟩)] w (fun e w' => e = .returned (.tuple #[]) ∧
      Holds w0 S (pre ++ (go, twoO (outN ps lev (jn x y) o).1 (outN ps lev (jn x y) o).2.1 (outN ps lev (jn x y) o).2.2) :: (gp, psO ps) :: post) rows w') := by
  obtain ⟨lz, a0, b0⟩ := o
  have HH := hid hH
  clear hH
  obtain ⟨p, hp⟩ : ∃ p, jn x y = p := ⟨_, rfl⟩
  obtain ⟨d, hd⟩ : ∃ d, ps.getD lev zP = d := ⟨_, rfl⟩
  have HB := hid (BP80 x y)
  have HGET := hid (ps_get hlen hk hd)
  have HD := hid hd
  rw [hp] at HB
  rw [hp]
  have HOG := hid (show ∀ o1, Own (pre ++ (go, o1) :: (gp, psO ps) :: post) gp (psO ps) from fun o1 => by
    have := Own.mid (pre ++ [(go, o1)]) gp (psO ps) post
    rwa [List.append_assoc] at this)
  clear hp hd
  by_cases hpd : p = d
  · have HNE := hid (show (!(p == d)) = false by rw [hpd]; simp)
    have HOUT := hid (show outN ps lev p (lz, a0, b0) = (lz, a0, b0) by unfold outN; rw [HD.out, if_pos hpd])
    clear hpd
    go_enter Try.func75, Try.ntmps75
    go_wp2_with (first
      | ((first
          | ((with_reducible apply wpL_skip); rfl; skip)
          | ((with_reducible apply wpList_build (parts := #[(0, .tmp 9), (1, .tmp 10)]) (v := p.val)); (exact HB.out); rfl)
          | ((with_reducible apply wpL_allocC (dst := some 8) (zs := zP.cells) (show (Try.prog.info? 80).map (·.zero) = some (some (.agg zP.cells.toArray)) by kernel_rfl) HH.out); rfl; (intro g8_ w_ hq_; clear HH; have HH := hid hq_; clear hq_))
          | ((with_reducible apply wpL_storeC (t := 80) (vs := p.cells)); rfl; rfl; (exact kS80); (exact HH.out); (exact .here); (exact Arr.len _); (exact cells_one _); (exact Arr.len _); rfl; (intro w_ hq_; clear HH; have HH := hid hq_; clear hq_))
          | ((with_reducible apply wpL_nilCheck); rfl; rfl)
          | ((with_reducible apply wpL_fieldAddr); (first | exact kF82_0 | exact kF82_1 | exact kF82_2); rfl; rfl)
          | ((with_reducible apply wpL_loadArr (t := 34) kA34 HH.out); rfl; (first | exact .here | exact .there .here | exact .there (.there .here) | exact .there (.there (.there .here)) | exact .there (.there (.there (.there .here))) | exact .there (.there (.there (.there (.there .here)))) | exact .there (.there (.there (.there (.there (.there .here))))) | exact .there (.there (.there (.there (.there (.there (.there .here))))))); rfl)
          | ((with_reducible apply wpL_loadC (t := 34) kA34 HH.out); rfl; (first | exact .here | exact .there .here | exact .there (.there .here) | exact .there (.there (.there .here)) | exact .there (.there (.there (.there .here))) | exact .there (.there (.there (.there (.there .here)))) | exact .there (.there (.there (.there (.there (.there .here))))) | exact .there (.there (.there (.there (.there (.there (.there .here))))))); (first | rfl | exact Arr.len _ | (simp; done)); rfl)
          | ((with_reducible apply wpL_loadC (t := 80) kA80 HH.out); rfl; (first | exact .here | exact .there .here | exact .there (.there .here) | exact .there (.there (.there .here)) | exact .there (.there (.there (.there .here))) | exact .there (.there (.there (.there (.there .here)))) | exact .there (.there (.there (.there (.there (.there .here))))) | exact .there (.there (.there (.there (.there (.there (.there .here))))))); (first | rfl | exact Arr.len _ | (simp; done)); rfl)
          | ((with_reducible apply wpL_boxArr (dst := some 6)); rfl; (exact HH.out); rfl; (intro g6_ w_ hq_; (try simp only [List.set_cons_zero, List.set_cons_succ] at hq_); clear HH; have HH := hid hq_; clear hq_))
          | ((with_reducible apply wpL_boxArr (dst := some 7)); rfl; (exact HH.out); rfl; (intro g7_ w_ hq_; (try simp only [List.set_cons_zero, List.set_cons_succ] at hq_); clear HH; have HH := hid hq_; clear hq_))
          | ((with_reducible apply wpL_allocC (dst := some 8) kZ80 HH.out); rfl; (intro g8_ w_ hq_; (try simp only [List.set_cons_zero, List.set_cons_succ] at hq_); clear HH; have HH := hid hq_; clear hq_))
          | ((with_reducible apply wpL_store1 (t := 3)); rfl; rfl; rfl; (exact kS3); (exact HH.out); (first | exact .here | exact .there .here | exact .there (.there .here) | exact .there (.there (.there .here)) | exact .there (.there (.there (.there .here))) | exact .there (.there (.there (.there (.there .here)))) | exact .there (.there (.there (.there (.there (.there .here))))) | exact .there (.there (.there (.there (.there (.there (.there .here))))))); rfl; (first | exact Nat.le_of_ble_eq_true rfl | (simp; done) | omega); rfl; (intro w_ hq_; (try simp only [List.set_cons_zero, List.set_cons_succ] at hq_); clear HH; have HH := hid hq_; clear hq_))
          | ((with_reducible apply wpL_storeC (t := 80)); rfl; rfl; (exact kS80); (exact HH.out); (first | exact .here | exact .there .here | exact .there (.there .here) | exact .there (.there (.there .here)) | exact .there (.there (.there (.there .here))) | exact .there (.there (.there (.there (.there .here)))) | exact .there (.there (.there (.there (.there (.there .here))))) | exact .there (.there (.there (.there (.there (.there (.there .here))))))); (first | rfl | exact Arr.len _ | (simp; done)); (first | rfl | (intro u_ hu_; simp only [List.mem_cons, List.not_mem_nil, or_false] at hu_; rcases hu_ with rfl | hu_; rfl) | exact byt_cell1 _ | exact cells_one _ | exact wrd_one _ | exact flat_cell1 _); (first | rfl | exact Arr.len _ | (simp; done)); rfl; (intro w_ hq_; (try simp only [List.set_cons_zero, List.set_cons_succ] at hq_); clear HH; have HH := hid hq_; clear hq_))
          | ((with_reducible apply wpL_storeC (t := 82)); rfl; rfl; (exact kS82); (exact HH.out); (first | exact .here | exact .there .here | exact .there (.there .here) | exact .there (.there (.there .here)) | exact .there (.there (.there (.there .here))) | exact .there (.there (.there (.there (.there .here)))) | exact .there (.there (.there (.there (.there (.there .here))))) | exact .there (.there (.there (.there (.there (.there (.there .here))))))); (first | rfl | exact Arr.len _ | (simp; done)); (first | rfl | (intro u_ hu_; simp only [List.mem_cons, List.not_mem_nil, or_false] at hu_; rcases hu_ with rfl | hu_; rfl) | exact byt_cell1 _ | exact cells_one _ | exact wrd_one _ | exact flat_cell1 _); (first | rfl | exact Arr.len _ | (simp; done)); rfl; (intro w_ hq_; (try simp only [List.set_cons_zero, List.set_cons_succ] at hq_); clear HH; have HH := hid hq_; clear hq_))
          | ((with_reducible apply wpL_move); rfl; rfl)
          | ((with_reducible apply wpL_assign); rfl; rfl)
          | ((with_reducible apply wpL_pick); rfl; rfl; rfl)
          | ((with_reducible apply wpL_not); rfl; rfl)
          | ((with_reducible apply wpL_cmp (b := true)); rfl; rfl; rfl; (first | rfl | assumption | (simp only [cmpB, decide_eq_true_eq, decide_eq_false_iff_not, beq_iff_eq, bne_iff_ne, ne_eq, beq_eq_false_iff_ne, bne_eq_false_iff_eq, gt_iff_lt, ge_iff_le]; omega) | (simp; omega)); rfl)
          | ((with_reducible apply wpL_cmp (b := false)); rfl; rfl; rfl; (first | rfl | assumption | (simp only [cmpB, decide_eq_true_eq, decide_eq_false_iff_not, beq_iff_eq, bne_iff_ne, ne_eq, beq_eq_false_iff_ne, bne_eq_false_iff_eq, gt_iff_lt, ge_iff_le]; omega) | (simp; omega)); rfl)
          | ((with_reducible apply wpL_cmp); rfl; rfl; rfl; rfl; rfl)
          | ((with_reducible apply wpL_arith); rfl; rfl; rfl; (exact IntWalk.i64_in _ (by (try simp only [arithI]); omega)); rfl)); (try simp only [arithI, Act.put, Act.eval, List.setIfInBounds_toArray, List.set_cons_succ, List.set_cons_zero, Array.getD_eq_getD_getElem?, List.getElem?_toArray, List.getElem?_cons_succ, List.getElem?_cons_zero, Option.getD_some])))
    refine wp_region_holds (by kernel_rfl) (by kernel_rfl) HH.out ?_
    repeat ((first
      | ((with_reducible apply wpQ_skip); rfl; skip)
      | ((with_reducible apply wpQ_indexE (m := lev) Try.underlying131 kS80 (by decide)); rfl; rfl; rfl; (exact hk); rfl)
      | ((with_reducible apply wpQ_loadPA (dst := some 15) (t := 80) (v := d) kA80); rfl; (exact .there (.there (.there (HOG.out _)))); (exact HGET.out); rfl)
      | ((with_reducible apply wpQ_neq80 (p := p) (q := d) (b := false)); rfl; rfl; (exact HNE.out); rfl)
      | ((with_reducible apply wpQ_nilCheck); rfl; rfl)
      | ((with_reducible apply wpQ_fieldAddr); (first | exact kF82_0 | exact kF82_1 | exact kF82_2); rfl; rfl)
      | ((with_reducible apply wpQ_loadArr (t := 34) kA34); rfl; (first | exact .here | exact .there .here | exact .there (.there .here) | exact .there (.there (.there .here)) | exact .there (.there (.there (.there .here))) | exact .there (.there (.there (.there (.there .here)))) | exact .there (.there (.there (.there (.there (.there .here))))) | exact .there (.there (.there (.there (.there (.there (.there .here))))))); rfl)
      | ((with_reducible apply wpQ_loadC (t := 34) kA34); rfl; (first | exact .here | exact .there .here | exact .there (.there .here) | exact .there (.there (.there .here)) | exact .there (.there (.there (.there .here))) | exact .there (.there (.there (.there (.there .here)))) | exact .there (.there (.there (.there (.there (.there .here))))) | exact .there (.there (.there (.there (.there (.there (.there .here))))))); (first | rfl | exact Arr.len _ | (simp; done)); rfl)
      | ((with_reducible apply wpQ_loadC (t := 80) kA80); rfl; (first | exact .here | exact .there .here | exact .there (.there .here) | exact .there (.there (.there .here)) | exact .there (.there (.there (.there .here))) | exact .there (.there (.there (.there (.there .here)))) | exact .there (.there (.there (.there (.there (.there .here))))) | exact .there (.there (.there (.there (.there (.there (.there .here))))))); (first | rfl | exact Arr.len _ | (simp; done)); rfl)
      | ((with_reducible apply wpQ_move); rfl; rfl)
      | ((with_reducible apply wpQ_assign); rfl; rfl)
      | ((with_reducible apply wpQ_pick); rfl; rfl; rfl)
      | ((with_reducible apply wpQ_not); rfl; rfl)
      | ((with_reducible apply wpQ_cmp (b := true)); rfl; rfl; rfl; (first | rfl | assumption | (simp only [cmpB, decide_eq_true_eq, decide_eq_false_iff_not, beq_iff_eq, bne_iff_ne, ne_eq, beq_eq_false_iff_ne, bne_eq_false_iff_eq, gt_iff_lt, ge_iff_le]; omega) | (simp; omega)); rfl)
      | ((with_reducible apply wpQ_cmp (b := false)); rfl; rfl; rfl; (first | rfl | assumption | (simp only [cmpB, decide_eq_true_eq, decide_eq_false_iff_not, beq_iff_eq, bne_iff_ne, ne_eq, beq_eq_false_iff_ne, bne_eq_false_iff_eq, gt_iff_lt, ge_iff_le]; omega) | (simp; omega)); rfl)
      | ((with_reducible apply wpQ_cmp); rfl; rfl; rfl; rfl; rfl)
      | ((with_reducible apply wpQ_arith); rfl; rfl; rfl; (exact IntWalk.i64_in _ (by (try simp only [arithI]); omega)); rfl)); (try simp only [if_true, if_false, Bool.false_eq_true, arithI, Act.put, Act.eval, List.setIfInBounds_toArray, List.set_cons_succ, List.set_cons_zero, Array.getD_eq_getD_getElem?, List.getElem?_toArray, List.getElem?_cons_succ, List.getElem?_cons_zero, Option.getD_some]))
    refine wpQuiet_nil ?_
    intro wq hq_
    have HQ := hid hq_
    clear hq_
    clear HH
    have HH := HQ
    clear HQ
    go_wp2_with (first
      | ((first
          | ((with_reducible apply wpL_skip); rfl; skip)
          | ((with_reducible apply wpL_nilCheck); rfl; rfl)
          | ((with_reducible apply wpL_fieldAddr); (first | exact kF82_0 | exact kF82_1 | exact kF82_2); rfl; rfl)
          | ((with_reducible apply wpL_loadArr (t := 34) kA34 HH.out); rfl; (first | exact .here | exact .there .here | exact .there (.there .here) | exact .there (.there (.there .here)) | exact .there (.there (.there (.there .here))) | exact .there (.there (.there (.there (.there .here)))) | exact .there (.there (.there (.there (.there (.there .here))))) | exact .there (.there (.there (.there (.there (.there (.there .here))))))); rfl)
          | ((with_reducible apply wpL_loadC (t := 34) kA34 HH.out); rfl; (first | exact .here | exact .there .here | exact .there (.there .here) | exact .there (.there (.there .here)) | exact .there (.there (.there (.there .here))) | exact .there (.there (.there (.there (.there .here)))) | exact .there (.there (.there (.there (.there (.there .here))))) | exact .there (.there (.there (.there (.there (.there (.there .here))))))); (first | rfl | exact Arr.len _ | (simp; done)); rfl)
          | ((with_reducible apply wpL_loadC (t := 80) kA80 HH.out); rfl; (first | exact .here | exact .there .here | exact .there (.there .here) | exact .there (.there (.there .here)) | exact .there (.there (.there (.there .here))) | exact .there (.there (.there (.there (.there .here)))) | exact .there (.there (.there (.there (.there (.there .here))))) | exact .there (.there (.there (.there (.there (.there (.there .here))))))); (first | rfl | exact Arr.len _ | (simp; done)); rfl)
          | ((with_reducible apply wpL_boxArr (dst := some 6)); rfl; (exact HH.out); rfl; (intro g6_ w_ hq_; (try simp only [List.set_cons_zero, List.set_cons_succ] at hq_); clear HH; have HH := hid hq_; clear hq_))
          | ((with_reducible apply wpL_boxArr (dst := some 7)); rfl; (exact HH.out); rfl; (intro g7_ w_ hq_; (try simp only [List.set_cons_zero, List.set_cons_succ] at hq_); clear HH; have HH := hid hq_; clear hq_))
          | ((with_reducible apply wpL_allocC (dst := some 8) kZ80 HH.out); rfl; (intro g8_ w_ hq_; (try simp only [List.set_cons_zero, List.set_cons_succ] at hq_); clear HH; have HH := hid hq_; clear hq_))
          | ((with_reducible apply wpL_store1 (t := 3)); rfl; rfl; rfl; (exact kS3); (exact HH.out); (first | exact .here | exact .there .here | exact .there (.there .here) | exact .there (.there (.there .here)) | exact .there (.there (.there (.there .here))) | exact .there (.there (.there (.there (.there .here)))) | exact .there (.there (.there (.there (.there (.there .here))))) | exact .there (.there (.there (.there (.there (.there (.there .here))))))); rfl; (first | exact Nat.le_of_ble_eq_true rfl | (simp; done) | omega); rfl; (intro w_ hq_; (try simp only [List.set_cons_zero, List.set_cons_succ] at hq_); clear HH; have HH := hid hq_; clear hq_))
          | ((with_reducible apply wpL_storeC (t := 80)); rfl; rfl; (exact kS80); (exact HH.out); (first | exact .here | exact .there .here | exact .there (.there .here) | exact .there (.there (.there .here)) | exact .there (.there (.there (.there .here))) | exact .there (.there (.there (.there (.there .here)))) | exact .there (.there (.there (.there (.there (.there .here))))) | exact .there (.there (.there (.there (.there (.there (.there .here))))))); (first | rfl | exact Arr.len _ | (simp; done)); (first | rfl | (intro u_ hu_; simp only [List.mem_cons, List.not_mem_nil, or_false] at hu_; rcases hu_ with rfl | hu_; rfl) | exact byt_cell1 _ | exact cells_one _ | exact wrd_one _ | exact flat_cell1 _); (first | rfl | exact Arr.len _ | (simp; done)); rfl; (intro w_ hq_; (try simp only [List.set_cons_zero, List.set_cons_succ] at hq_); clear HH; have HH := hid hq_; clear hq_))
          | ((with_reducible apply wpL_storeC (t := 82)); rfl; rfl; (exact kS82); (exact HH.out); (first | exact .here | exact .there .here | exact .there (.there .here) | exact .there (.there (.there .here)) | exact .there (.there (.there (.there .here))) | exact .there (.there (.there (.there (.there .here)))) | exact .there (.there (.there (.there (.there (.there .here))))) | exact .there (.there (.there (.there (.there (.there (.there .here))))))); (first | rfl | exact Arr.len _ | (simp; done)); (first | rfl | (intro u_ hu_; simp only [List.mem_cons, List.not_mem_nil, or_false] at hu_; rcases hu_ with rfl | hu_; rfl) | exact byt_cell1 _ | exact cells_one _ | exact wrd_one _ | exact flat_cell1 _); (first | rfl | exact Arr.len _ | (simp; done)); rfl; (intro w_ hq_; (try simp only [List.set_cons_zero, List.set_cons_succ] at hq_); clear HH; have HH := hid hq_; clear hq_))
          | ((with_reducible apply wpL_move); rfl; rfl)
          | ((with_reducible apply wpL_assign); rfl; rfl)
          | ((with_reducible apply wpL_pick); rfl; rfl; rfl)
          | ((with_reducible apply wpL_not); rfl; rfl)
          | ((with_reducible apply wpL_cmp (b := true)); rfl; rfl; rfl; (first | rfl | assumption | (simp only [cmpB, decide_eq_true_eq, decide_eq_false_iff_not, beq_iff_eq, bne_iff_ne, ne_eq, beq_eq_false_iff_ne, bne_eq_false_iff_eq, gt_iff_lt, ge_iff_le]; omega) | (simp; omega)); rfl)
          | ((with_reducible apply wpL_cmp (b := false)); rfl; rfl; rfl; (first | rfl | assumption | (simp only [cmpB, decide_eq_true_eq, decide_eq_false_iff_not, beq_iff_eq, bne_iff_ne, ne_eq, beq_eq_false_iff_ne, bne_eq_false_iff_eq, gt_iff_lt, ge_iff_le]; omega) | (simp; omega)); rfl)
          | ((with_reducible apply wpL_cmp); rfl; rfl; rfl; rfl; rfl)
          | ((with_reducible apply wpL_arith); rfl; rfl; rfl; (exact IntWalk.i64_in _ (by (try simp only [arithI]); omega)); rfl)); (try simp only [arithI, Act.put, Act.eval, List.setIfInBounds_toArray, List.set_cons_succ, List.set_cons_zero, Array.getD_eq_getD_getElem?, List.getElem?_toArray, List.getElem?_cons_succ, List.getElem?_cons_zero, Option.getD_some])))
    refine ⟨rfl, _, res0 rfl, rfl, ?_⟩
    rw [HOUT.out]
    exact HH.out.dropBlk.dropBlk.dropBlk
  · have HNE := hid (show (!(p == d)) = true by rw [Bool.not_eq_true', beq_eq_false_iff_ne]; exact hpd)
    have HOUT := hid (show outN ps lev p (lz, a0, b0) = ((lev : Int), d, p) by unfold outN; rw [HD.out, if_neg hpd])
    clear hpd
    go_enter Try.func75, Try.ntmps75
    go_wp2_with (first
      | ((first
          | ((with_reducible apply wpL_skip); rfl; skip)
          | ((with_reducible apply wpList_build (parts := #[(0, .tmp 9), (1, .tmp 10)]) (v := p.val)); (exact HB.out); rfl)
          | ((with_reducible apply wpL_allocC (dst := some 8) (zs := zP.cells) (show (Try.prog.info? 80).map (·.zero) = some (some (.agg zP.cells.toArray)) by kernel_rfl) HH.out); rfl; (intro g8_ w_ hq_; clear HH; have HH := hid hq_; clear hq_))
          | ((with_reducible apply wpL_storeC (t := 80) (vs := p.cells)); rfl; rfl; (exact kS80); (exact HH.out); (exact .here); (exact Arr.len _); (exact cells_one _); (exact Arr.len _); rfl; (intro w_ hq_; clear HH; have HH := hid hq_; clear hq_))
          | ((with_reducible apply wpL_nilCheck); rfl; rfl)
          | ((with_reducible apply wpL_fieldAddr); (first | exact kF82_0 | exact kF82_1 | exact kF82_2); rfl; rfl)
          | ((with_reducible apply wpL_loadArr (t := 34) kA34 HH.out); rfl; (first | exact .here | exact .there .here | exact .there (.there .here) | exact .there (.there (.there .here)) | exact .there (.there (.there (.there .here))) | exact .there (.there (.there (.there (.there .here)))) | exact .there (.there (.there (.there (.there (.there .here))))) | exact .there (.there (.there (.there (.there (.there (.there .here))))))); rfl)
          | ((with_reducible apply wpL_loadC (t := 34) kA34 HH.out); rfl; (first | exact .here | exact .there .here | exact .there (.there .here) | exact .there (.there (.there .here)) | exact .there (.there (.there (.there .here))) | exact .there (.there (.there (.there (.there .here)))) | exact .there (.there (.there (.there (.there (.there .here))))) | exact .there (.there (.there (.there (.there (.there (.there .here))))))); (first | rfl | exact Arr.len _ | (simp; done)); rfl)
          | ((with_reducible apply wpL_loadC (t := 80) kA80 HH.out); rfl; (first | exact .here | exact .there .here | exact .there (.there .here) | exact .there (.there (.there .here)) | exact .there (.there (.there (.there .here))) | exact .there (.there (.there (.there (.there .here)))) | exact .there (.there (.there (.there (.there (.there .here))))) | exact .there (.there (.there (.there (.there (.there (.there .here))))))); (first | rfl | exact Arr.len _ | (simp; done)); rfl)
          | ((with_reducible apply wpL_boxArr (dst := some 6)); rfl; (exact HH.out); rfl; (intro g6_ w_ hq_; (try simp only [List.set_cons_zero, List.set_cons_succ] at hq_); clear HH; have HH := hid hq_; clear hq_))
          | ((with_reducible apply wpL_boxArr (dst := some 7)); rfl; (exact HH.out); rfl; (intro g7_ w_ hq_; (try simp only [List.set_cons_zero, List.set_cons_succ] at hq_); clear HH; have HH := hid hq_; clear hq_))
          | ((with_reducible apply wpL_allocC (dst := some 8) kZ80 HH.out); rfl; (intro g8_ w_ hq_; (try simp only [List.set_cons_zero, List.set_cons_succ] at hq_); clear HH; have HH := hid hq_; clear hq_))
          | ((with_reducible apply wpL_store1 (t := 3)); rfl; rfl; rfl; (exact kS3); (exact HH.out); (first | exact .here | exact .there .here | exact .there (.there .here) | exact .there (.there (.there .here)) | exact .there (.there (.there (.there .here))) | exact .there (.there (.there (.there (.there .here)))) | exact .there (.there (.there (.there (.there (.there .here))))) | exact .there (.there (.there (.there (.there (.there (.there .here))))))); rfl; (first | exact Nat.le_of_ble_eq_true rfl | (simp; done) | omega); rfl; (intro w_ hq_; (try simp only [List.set_cons_zero, List.set_cons_succ] at hq_); clear HH; have HH := hid hq_; clear hq_))
          | ((with_reducible apply wpL_storeC (t := 80)); rfl; rfl; (exact kS80); (exact HH.out); (first | exact .here | exact .there .here | exact .there (.there .here) | exact .there (.there (.there .here)) | exact .there (.there (.there (.there .here))) | exact .there (.there (.there (.there (.there .here)))) | exact .there (.there (.there (.there (.there (.there .here))))) | exact .there (.there (.there (.there (.there (.there (.there .here))))))); (first | rfl | exact Arr.len _ | (simp; done)); (first | rfl | (intro u_ hu_; simp only [List.mem_cons, List.not_mem_nil, or_false] at hu_; rcases hu_ with rfl | hu_; rfl) | exact byt_cell1 _ | exact cells_one _ | exact wrd_one _ | exact flat_cell1 _); (first | rfl | exact Arr.len _ | (simp; done)); rfl; (intro w_ hq_; (try simp only [List.set_cons_zero, List.set_cons_succ] at hq_); clear HH; have HH := hid hq_; clear hq_))
          | ((with_reducible apply wpL_storeC (t := 82)); rfl; rfl; (exact kS82); (exact HH.out); (first | exact .here | exact .there .here | exact .there (.there .here) | exact .there (.there (.there .here)) | exact .there (.there (.there (.there .here))) | exact .there (.there (.there (.there (.there .here)))) | exact .there (.there (.there (.there (.there (.there .here))))) | exact .there (.there (.there (.there (.there (.there (.there .here))))))); (first | rfl | exact Arr.len _ | (simp; done)); (first | rfl | (intro u_ hu_; simp only [List.mem_cons, List.not_mem_nil, or_false] at hu_; rcases hu_ with rfl | hu_; rfl) | exact byt_cell1 _ | exact cells_one _ | exact wrd_one _ | exact flat_cell1 _); (first | rfl | exact Arr.len _ | (simp; done)); rfl; (intro w_ hq_; (try simp only [List.set_cons_zero, List.set_cons_succ] at hq_); clear HH; have HH := hid hq_; clear hq_))
          | ((with_reducible apply wpL_move); rfl; rfl)
          | ((with_reducible apply wpL_assign); rfl; rfl)
          | ((with_reducible apply wpL_pick); rfl; rfl; rfl)
          | ((with_reducible apply wpL_not); rfl; rfl)
          | ((with_reducible apply wpL_cmp (b := true)); rfl; rfl; rfl; (first | rfl | assumption | (simp only [cmpB, decide_eq_true_eq, decide_eq_false_iff_not, beq_iff_eq, bne_iff_ne, ne_eq, beq_eq_false_iff_ne, bne_eq_false_iff_eq, gt_iff_lt, ge_iff_le]; omega) | (simp; omega)); rfl)
          | ((with_reducible apply wpL_cmp (b := false)); rfl; rfl; rfl; (first | rfl | assumption | (simp only [cmpB, decide_eq_true_eq, decide_eq_false_iff_not, beq_iff_eq, bne_iff_ne, ne_eq, beq_eq_false_iff_ne, bne_eq_false_iff_eq, gt_iff_lt, ge_iff_le]; omega) | (simp; omega)); rfl)
          | ((with_reducible apply wpL_cmp); rfl; rfl; rfl; rfl; rfl)
          | ((with_reducible apply wpL_arith); rfl; rfl; rfl; (exact IntWalk.i64_in _ (by (try simp only [arithI]); omega)); rfl)); (try simp only [arithI, Act.put, Act.eval, List.setIfInBounds_toArray, List.set_cons_succ, List.set_cons_zero, Array.getD_eq_getD_getElem?, List.getElem?_toArray, List.getElem?_cons_succ, List.getElem?_cons_zero, Option.getD_some])))
    refine wp_region_holds (by kernel_rfl) (by kernel_rfl) HH.out ?_
    repeat ((first
      | ((with_reducible apply wpQ_skip); rfl; skip)
      | ((with_reducible apply wpQ_indexE (m := lev) Try.underlying131 kS80 (by decide)); rfl; rfl; rfl; (exact hk); rfl)
      | ((with_reducible apply wpQ_loadPA (dst := some 15) (t := 80) (v := d) kA80); rfl; (exact .there (.there (.there (HOG.out _)))); (exact HGET.out); rfl)
      | ((with_reducible apply wpQ_neq80 (p := p) (q := d) (b := true)); rfl; rfl; (exact HNE.out); rfl)
      | ((with_reducible apply wpQ_nilCheck); rfl; rfl)
      | ((with_reducible apply wpQ_fieldAddr); (first | exact kF82_0 | exact kF82_1 | exact kF82_2); rfl; rfl)
      | ((with_reducible apply wpQ_loadArr (t := 34) kA34); rfl; (first | exact .here | exact .there .here | exact .there (.there .here) | exact .there (.there (.there .here)) | exact .there (.there (.there (.there .here))) | exact .there (.there (.there (.there (.there .here)))) | exact .there (.there (.there (.there (.there (.there .here))))) | exact .there (.there (.there (.there (.there (.there (.there .here))))))); rfl)
      | ((with_reducible apply wpQ_loadC (t := 34) kA34); rfl; (first | exact .here | exact .there .here | exact .there (.there .here) | exact .there (.there (.there .here)) | exact .there (.there (.there (.there .here))) | exact .there (.there (.there (.there (.there .here)))) | exact .there (.there (.there (.there (.there (.there .here))))) | exact .there (.there (.there (.there (.there (.there (.there .here))))))); (first | rfl | exact Arr.len _ | (simp; done)); rfl)
      | ((with_reducible apply wpQ_loadC (t := 80) kA80); rfl; (first | exact .here | exact .there .here | exact .there (.there .here) | exact .there (.there (.there .here)) | exact .there (.there (.there (.there .here))) | exact .there (.there (.there (.there (.there .here)))) | exact .there (.there (.there (.there (.there (.there .here))))) | exact .there (.there (.there (.there (.there (.there (.there .here))))))); (first | rfl | exact Arr.len _ | (simp; done)); rfl)
      | ((with_reducible apply wpQ_move); rfl; rfl)
      | ((with_reducible apply wpQ_assign); rfl; rfl)
      | ((with_reducible apply wpQ_pick); rfl; rfl; rfl)
      | ((with_reducible apply wpQ_not); rfl; rfl)
      | ((with_reducible apply wpQ_cmp (b := true)); rfl; rfl; rfl; (first | rfl | assumption | (simp only [cmpB, decide_eq_true_eq, decide_eq_false_iff_not, beq_iff_eq, bne_iff_ne, ne_eq, beq_eq_false_iff_ne, bne_eq_false_iff_eq, gt_iff_lt, ge_iff_le]; omega) | (simp; omega)); rfl)
      | ((with_reducible apply wpQ_cmp (b := false)); rfl; rfl; rfl; (first | rfl | assumption | (simp only [cmpB, decide_eq_true_eq, decide_eq_false_iff_not, beq_iff_eq, bne_iff_ne, ne_eq, beq_eq_false_iff_ne, bne_eq_false_iff_eq, gt_iff_lt, ge_iff_le]; omega) | (simp; omega)); rfl)
      | ((with_reducible apply wpQ_cmp); rfl; rfl; rfl; rfl; rfl)
      | ((with_reducible apply wpQ_arith); rfl; rfl; rfl; (exact IntWalk.i64_in _ (by (try simp only [arithI]); omega)); rfl)); (try simp only [if_true, if_false, Bool.false_eq_true, arithI, Act.put, Act.eval, List.setIfInBounds_toArray, List.set_cons_succ, List.set_cons_zero, Array.getD_eq_getD_getElem?, List.getElem?_toArray, List.getElem?_cons_succ, List.getElem?_cons_zero, Option.getD_some]))
    refine wpQuiet_nil ?_
    intro wq hq_
    have HQ := hid hq_
    clear hq_
    clear HH
    have HH := HQ
    clear HQ
    go_wp2_with (first
      | ((first
          | ((with_reducible apply wpL_skip); rfl; skip)
          | ((with_reducible apply wpL_nilCheck); rfl; rfl)
          | ((with_reducible apply wpL_fieldAddr); (first | exact kF82_0 | exact kF82_1 | exact kF82_2); rfl; rfl)
          | ((with_reducible apply wpL_loadArr (t := 34) kA34 HH.out); rfl; (first | exact .here | exact .there .here | exact .there (.there .here) | exact .there (.there (.there .here)) | exact .there (.there (.there (.there .here))) | exact .there (.there (.there (.there (.there .here)))) | exact .there (.there (.there (.there (.there (.there .here))))) | exact .there (.there (.there (.there (.there (.there (.there .here))))))); rfl)
          | ((with_reducible apply wpL_loadC (t := 34) kA34 HH.out); rfl; (first | exact .here | exact .there .here | exact .there (.there .here) | exact .there (.there (.there .here)) | exact .there (.there (.there (.there .here))) | exact .there (.there (.there (.there (.there .here)))) | exact .there (.there (.there (.there (.there (.there .here))))) | exact .there (.there (.there (.there (.there (.there (.there .here))))))); (first | rfl | exact Arr.len _ | (simp; done)); rfl)
          | ((with_reducible apply wpL_loadC (t := 80) kA80 HH.out); rfl; (first | exact .here | exact .there .here | exact .there (.there .here) | exact .there (.there (.there .here)) | exact .there (.there (.there (.there .here))) | exact .there (.there (.there (.there (.there .here)))) | exact .there (.there (.there (.there (.there (.there .here))))) | exact .there (.there (.there (.there (.there (.there (.there .here))))))); (first | rfl | exact Arr.len _ | (simp; done)); rfl)
          | ((with_reducible apply wpL_boxArr (dst := some 6)); rfl; (exact HH.out); rfl; (intro g6_ w_ hq_; (try simp only [List.set_cons_zero, List.set_cons_succ] at hq_); clear HH; have HH := hid hq_; clear hq_))
          | ((with_reducible apply wpL_boxArr (dst := some 7)); rfl; (exact HH.out); rfl; (intro g7_ w_ hq_; (try simp only [List.set_cons_zero, List.set_cons_succ] at hq_); clear HH; have HH := hid hq_; clear hq_))
          | ((with_reducible apply wpL_allocC (dst := some 8) kZ80 HH.out); rfl; (intro g8_ w_ hq_; (try simp only [List.set_cons_zero, List.set_cons_succ] at hq_); clear HH; have HH := hid hq_; clear hq_))
          | ((with_reducible apply wpL_store1 (t := 3)); rfl; rfl; rfl; (exact kS3); (exact HH.out); (first | exact .here | exact .there .here | exact .there (.there .here) | exact .there (.there (.there .here)) | exact .there (.there (.there (.there .here))) | exact .there (.there (.there (.there (.there .here)))) | exact .there (.there (.there (.there (.there (.there .here))))) | exact .there (.there (.there (.there (.there (.there (.there .here))))))); rfl; (first | exact Nat.le_of_ble_eq_true rfl | (simp; done) | omega); rfl; (intro w_ hq_; (try simp only [List.set_cons_zero, List.set_cons_succ] at hq_); clear HH; have HH := hid hq_; clear hq_))
          | ((with_reducible apply wpL_storeC (t := 80)); rfl; rfl; (exact kS80); (exact HH.out); (first | exact .here | exact .there .here | exact .there (.there .here) | exact .there (.there (.there .here)) | exact .there (.there (.there (.there .here))) | exact .there (.there (.there (.there (.there .here)))) | exact .there (.there (.there (.there (.there (.there .here))))) | exact .there (.there (.there (.there (.there (.there (.there .here))))))); (first | rfl | exact Arr.len _ | (simp; done)); (first | rfl | (intro u_ hu_; simp only [List.mem_cons, List.not_mem_nil, or_false] at hu_; rcases hu_ with rfl | hu_; rfl) | exact byt_cell1 _ | exact cells_one _ | exact wrd_one _ | exact flat_cell1 _); (first | rfl | exact Arr.len _ | (simp; done)); rfl; (intro w_ hq_; (try simp only [List.set_cons_zero, List.set_cons_succ] at hq_); clear HH; have HH := hid hq_; clear hq_))
          | ((with_reducible apply wpL_storeC (t := 82)); rfl; rfl; (exact kS82); (exact HH.out); (first | exact .here | exact .there .here | exact .there (.there .here) | exact .there (.there (.there .here)) | exact .there (.there (.there (.there .here))) | exact .there (.there (.there (.there (.there .here)))) | exact .there (.there (.there (.there (.there (.there .here))))) | exact .there (.there (.there (.there (.there (.there (.there .here))))))); (first | rfl | exact Arr.len _ | (simp; done)); (first | rfl | (intro u_ hu_; simp only [List.mem_cons, List.not_mem_nil, or_false] at hu_; rcases hu_ with rfl | hu_; rfl) | exact byt_cell1 _ | exact cells_one _ | exact wrd_one _ | exact flat_cell1 _); (first | rfl | exact Arr.len _ | (simp; done)); rfl; (intro w_ hq_; (try simp only [List.set_cons_zero, List.set_cons_succ] at hq_); clear HH; have HH := hid hq_; clear hq_))
          | ((with_reducible apply wpL_move); rfl; rfl)
          | ((with_reducible apply wpL_assign); rfl; rfl)
          | ((with_reducible apply wpL_pick); rfl; rfl; rfl)
          | ((with_reducible apply wpL_not); rfl; rfl)
          | ((with_reducible apply wpL_cmp (b := true)); rfl; rfl; rfl; (first | rfl | assumption | (simp only [cmpB, decide_eq_true_eq, decide_eq_false_iff_not, beq_iff_eq, bne_iff_ne, ne_eq, beq_eq_false_iff_ne, bne_eq_false_iff_eq, gt_iff_lt, ge_iff_le]; omega) | (simp; omega)); rfl)
          | ((with_reducible apply wpL_cmp (b := false)); rfl; rfl; rfl; (first | rfl | assumption | (simp only [cmpB, decide_eq_true_eq, decide_eq_false_iff_not, beq_iff_eq, bne_iff_ne, ne_eq, beq_eq_false_iff_ne, bne_eq_false_iff_eq, gt_iff_lt, ge_iff_le]; omega) | (simp; omega)); rfl)
          | ((with_reducible apply wpL_cmp); rfl; rfl; rfl; rfl; rfl)
          | ((with_reducible apply wpL_arith); rfl; rfl; rfl; (exact IntWalk.i64_in _ (by (try simp only [arithI]); omega)); rfl)); (try simp only [arithI, Act.put, Act.eval, List.setIfInBounds_toArray, List.set_cons_succ, List.set_cons_zero, Array.getD_eq_getD_getElem?, List.getElem?_toArray, List.getElem?_cons_succ, List.getElem?_cons_zero, Option.getD_some])))
    refine wp_region_F [(fun u_ => u_ = (.int .i64 (lev : Int))), (fun u_ => u_ = (.int .i64 (lev : Int))), (fun u_ => u_ = (.pointer (some ⟨gp, 0 + lev * 32, none⟩))), (fun u_ => u_ = d.val), (fun u_ => u_ = p.val), (fun _ => True), (fun u_ => u_ = (.pointer (some ⟨go, 0 + 0, none⟩))), (fun _ => True), (fun u_ => u_ = (.pointer (some ⟨go, 0 + 1, none⟩))), (fun _ => True), (fun u_ => u_ = (.pointer (some ⟨go, 0 + 33, none⟩))), (fun _ => True)] (StJ w0 S ((g8_, objC p.cells 80) :: (g7_, objC y.cells 34) :: (g6_, objC x.cells 34) :: pre) ((gp, psO ps) :: post) rows go (st75 lz a0 b0 lev d p)) (by kernel_rfl) (by kernel_rfl) rfl (HH.out.drew) ?_ ?_
    · refine eachD_cons ?_ (eachD_cons ?_ (eachD_cons ?_ (eachD_cons ?_ (eachD_cons ?_ (eachD_cons ?_ (eachD_cons ?_ (eachD_cons ?_ (eachD_cons ?_ (eachD_cons ?_ (eachD_cons ?_ (eachD_cons ?_ (eachD_nil))))))))))))
      · intro li_ a_ w1 hc hi hJ hF hS
        have e0 : a_.eval (.tmp 0) = (.int .i64 (lev : Int)) := (hF.2.2 0 (notDst_of (by kernel_rfl))).trans rfl
        refine wantD (by rfl) ?_
        exact opF_val rfl (ex_move rfl w1) hJ e0
      · intro li_ a_ w1 hc hi hJ hF hS
        have e0 : a_.eval (.tmp 0) = (.int .i64 (lev : Int)) := (hF.2.2 0 (notDst_of (by kernel_rfl))).trans rfl
        refine wantD (by rfl) ?_
        exact opF_val rfl (ex_move rfl w1) hJ e0
      · intro li_ a_ w1 hc hi hJ hF hS
        have l1 : li_ 1 = true := (hS ⟨1, .data⟩ (by simp) rfl).1
        have e3 : a_.eval (.tmp 3) = (.pointer (some ⟨gp, 0, none⟩)) := (hF.2.2 3 (notDst_of (by kernel_rfl))).trans rfl
        have e18 : a_.eval (.tmp 18) = (.int .i64 (lev : Int)) := (hS ⟨1, .data⟩ (by simp) rfl).2 _ rfl
        refine wantD (by rfl) ?_
        exact opF_val rfl (ex_indexE (m := lev) Try.underlying131 kS80 (by decide) e3 e18 rfl hk w1) hJ rfl
      · intro li_ a_ w1 hc hi hJ hF hS
        have l2 : li_ 2 = true := (hS ⟨2, .data⟩ (by simp) rfl).1
        have e19 : a_.eval (.tmp 19) = (.pointer (some ⟨gp, 0 + lev * 32, none⟩)) := (hS ⟨2, .data⟩ (by simp) rfl).2 _ rfl
        refine wantD (by rfl) ?_
        exact opF_val rfl (ex_loadPart (cs := flat ps) (e := 131) kA80 hJ e19 (.there (.there (.there (HOG.out _)))) HGET.out (Arr.len _)) hJ rfl
      · intro li_ a_ w1 hc hi hJ hF hS
        have e8 : a_.eval (.tmp 8) = (.pointer (some ⟨g8_, 0, none⟩)) := (hF.2.2 8 (notDst_of (by kernel_rfl))).trans rfl
        refine wantD (by rfl) ?_
        exact opF_val rfl (ex_loadPart (cs := p.cells) (e := 80) kA80 hJ e8 .here (by rw [List.drop_zero]; exact List.take_of_length_le (by rw [Arr.len]; exact Nat.le_refl _)) (Arr.len _)) hJ rfl
      · intro li_ a_ w1 hc hi hJ hF hS
        have e4 : a_.eval (.tmp 4) = (.pointer (some ⟨go, 0, none⟩)) := (hF.2.2 4 (notDst_of (by kernel_rfl))).trans rfl
        refine wantD (by rfl) ?_
        exact stJ_store (i := 5) hJ (show st75 lz a0 b0 lev d p li_ = twoO lz a0 b0 by unfold st75; rw [hi]; rfl) (show st75 lz a0 b0 lev d p (upd li_ 5) = twoO 0 zP zP by show selO true _ (selO (li_ 7) _ _) = _; rw [hc.off (i := 5) (j := 7) (by kernel_rfl) hi]; rfl) (two_stA _ _ _) e4 rfl (by rfl) kS82 (two_len _ _ _) (two_one _ _ _) (by rw [two_len]; decide)
      · intro li_ a_ w1 hc hi hJ hF hS
        have l0 : li_ 0 = true := (hS ⟨0, .phase⟩ (by simp) rfl).1
        have l5 : li_ 5 = true := (hS ⟨5, .phase⟩ (by simp) rfl).1
        have e4 : a_.eval (.tmp 4) = (.pointer (some ⟨go, 0, none⟩)) := (hF.2.2 4 (notDst_of (by kernel_rfl))).trans rfl
        refine wantD (by rfl) ?_
        exact opF_val rfl (ex_fieldAddr kF82_0 e4 w1) hJ rfl
      · intro li_ a_ w1 hc hi hJ hF hS
        have l6 : li_ 6 = true := (hS ⟨6, .data⟩ (by simp) rfl).1
        have l0 : li_ 0 = true := (hS ⟨0, .data⟩ (by simp) rfl).1
        have l5 : li_ 5 = true := (hS ⟨5, .chain⟩ (by simp) rfl).1
        have e22 : a_.eval (.tmp 22) = (.pointer (some ⟨go, 0 + 0, none⟩)) := (hS ⟨6, .data⟩ (by simp) rfl).2 _ rfl
        have e17 : a_.eval (.tmp 17) = (.int .i64 (lev : Int)) := (hS ⟨0, .data⟩ (by simp) rfl).2 _ rfl
        refine wantD (by rfl) ?_
        exact stJ_store (i := 7) hJ (show st75 lz a0 b0 lev d p li_ = twoO 0 zP zP by unfold st75; rw [l5, hi]; rfl) (show st75 lz a0 b0 lev d p (upd li_ 7) = twoO lev zP zP by show selO (li_ 5) _ (selO true _ (selO (li_ 9) _ _)) = _; rw [l5, hc.off (i := 7) (j := 9) (by kernel_rfl) hi]; rfl) (two_st0 _ _ _ _) e22 e17 rfl kS3 rfl (by intro u hu; rw [List.mem_singleton] at hu; subst hu; rfl) (by rw [two_len]; decide)
      · intro li_ a_ w1 hc hi hJ hF hS
        have l0 : li_ 0 = true := (hS ⟨0, .phase⟩ (by simp) rfl).1
        have l1 : li_ 1 = true := (hS ⟨1, .phase⟩ (by simp) rfl).1
        have l2 : li_ 2 = true := (hS ⟨2, .phase⟩ (by simp) rfl).1
        have l3 : li_ 3 = true := (hS ⟨3, .phase⟩ (by simp) rfl).1
        have l5 : li_ 5 = true := (hS ⟨5, .phase⟩ (by simp) rfl).1
        have l6 : li_ 6 = true := (hS ⟨6, .phase⟩ (by simp) rfl).1
        have l7 : li_ 7 = true := (hS ⟨7, .phase⟩ (by simp) rfl).1
        have e4 : a_.eval (.tmp 4) = (.pointer (some ⟨go, 0, none⟩)) := (hF.2.2 4 (notDst_of (by kernel_rfl))).trans rfl
        refine wantD (by rfl) ?_
        exact opF_val rfl (ex_fieldAddr kF82_1 e4 w1) hJ rfl
      · intro li_ a_ w1 hc hi hJ hF hS
        have l8 : li_ 8 = true := (hS ⟨8, .data⟩ (by simp) rfl).1
        have l3 : li_ 3 = true := (hS ⟨3, .data⟩ (by simp) rfl).1
        have l7 : li_ 7 = true := (hS ⟨7, .chain⟩ (by simp) rfl).1
        have l0 : li_ 0 = true := (hS ⟨0, .phase⟩ (by simp) rfl).1
        have l1 : li_ 1 = true := (hS ⟨1, .phase⟩ (by simp) rfl).1
        have l2 : li_ 2 = true := (hS ⟨2, .phase⟩ (by simp) rfl).1
        have l5 : li_ 5 = true := (hS ⟨5, .phase⟩ (by simp) rfl).1
        have l6 : li_ 6 = true := (hS ⟨6, .phase⟩ (by simp) rfl).1
        have e23 : a_.eval (.tmp 23) = (.pointer (some ⟨go, 0 + 1, none⟩)) := (hS ⟨8, .data⟩ (by simp) rfl).2 _ rfl
        have e20 : a_.eval (.tmp 20) = d.val := (hS ⟨3, .data⟩ (by simp) rfl).2 _ rfl
        refine wantD (by rfl) ?_
        exact stJ_store (i := 9) hJ (show st75 lz a0 b0 lev d p li_ = twoO lev zP zP by unfold st75; rw [l5, l7, hi]; rfl) (show st75 lz a0 b0 lev d p (upd li_ 9) = twoO lev d zP by show selO (li_ 5) _ (selO (li_ 7) _ (selO true _ (selO (li_ 11) _ _))) = _; rw [l5, l7, hc.off (i := 9) (j := 11) (by kernel_rfl) hi]; rfl) (two_st1 _ _ _ _) e23 e20 rfl kS80 (Arr.len _) (cells_one _) (by rw [two_len]; decide)
      · intro li_ a_ w1 hc hi hJ hF hS
        have l0 : li_ 0 = true := (hS ⟨0, .phase⟩ (by simp) rfl).1
        have l1 : li_ 1 = true := (hS ⟨1, .phase⟩ (by simp) rfl).1
        have l2 : li_ 2 = true := (hS ⟨2, .phase⟩ (by simp) rfl).1
        have l3 : li_ 3 = true := (hS ⟨3, .phase⟩ (by simp) rfl).1
        have l4 : li_ 4 = true := (hS ⟨4, .phase⟩ (by simp) rfl).1
        have l5 : li_ 5 = true := (hS ⟨5, .phase⟩ (by simp) rfl).1
        have l6 : li_ 6 = true := (hS ⟨6, .phase⟩ (by simp) rfl).1
        have l7 : li_ 7 = true := (hS ⟨7, .phase⟩ (by simp) rfl).1
        have l8 : li_ 8 = true := (hS ⟨8, .phase⟩ (by simp) rfl).1
        have l9 : li_ 9 = true := (hS ⟨9, .phase⟩ (by simp) rfl).1
        have e4 : a_.eval (.tmp 4) = (.pointer (some ⟨go, 0, none⟩)) := (hF.2.2 4 (notDst_of (by kernel_rfl))).trans rfl
        refine wantD (by rfl) ?_
        exact opF_val rfl (ex_fieldAddr kF82_2 e4 w1) hJ rfl
      · intro li_ a_ w1 hc hi hJ hF hS
        have l10 : li_ 10 = true := (hS ⟨10, .data⟩ (by simp) rfl).1
        have l4 : li_ 4 = true := (hS ⟨4, .data⟩ (by simp) rfl).1
        have l9 : li_ 9 = true := (hS ⟨9, .chain⟩ (by simp) rfl).1
        have l0 : li_ 0 = true := (hS ⟨0, .phase⟩ (by simp) rfl).1
        have l1 : li_ 1 = true := (hS ⟨1, .phase⟩ (by simp) rfl).1
        have l2 : li_ 2 = true := (hS ⟨2, .phase⟩ (by simp) rfl).1
        have l3 : li_ 3 = true := (hS ⟨3, .phase⟩ (by simp) rfl).1
        have l5 : li_ 5 = true := (hS ⟨5, .phase⟩ (by simp) rfl).1
        have l6 : li_ 6 = true := (hS ⟨6, .phase⟩ (by simp) rfl).1
        have l7 : li_ 7 = true := (hS ⟨7, .phase⟩ (by simp) rfl).1
        have l8 : li_ 8 = true := (hS ⟨8, .phase⟩ (by simp) rfl).1
        have e24 : a_.eval (.tmp 24) = (.pointer (some ⟨go, 0 + 33, none⟩)) := (hS ⟨10, .data⟩ (by simp) rfl).2 _ rfl
        have e21 : a_.eval (.tmp 21) = p.val := (hS ⟨4, .data⟩ (by simp) rfl).2 _ rfl
        refine wantD (by rfl) ?_
        exact stJ_store (i := 11) hJ (show st75 lz a0 b0 lev d p li_ = twoO lev d zP by unfold st75; rw [l5, l7, l9, hi]; rfl) (show st75 lz a0 b0 lev d p (upd li_ 11) = twoO lev d p by show selO (li_ 5) _ (selO (li_ 7) _ (selO (li_ 9) _ (selO true _ _))) = _; rw [l5, l7, l9]; rfl) (two_st2 _ _ _ _) e24 e21 rfl kS80 (Arr.len _) (cells_one _) (by rw [two_len]; decide)
    intro v0_ h0_ v1_ h1_ v2_ h2_ v3_ h3_ v4_ h4_ v5_ h5_ v6_ h6_ v7_ h7_ v8_ h8_ v9_ h9_ v10_ h10_ v11_ h11_
    intro wq hq_
    have q_ : v0_ = (.int .i64 (lev : Int)) := h0_; clear h0_; subst q_
    have q_ : v1_ = (.int .i64 (lev : Int)) := h1_; clear h1_; subst q_
    have q_ : v2_ = (.pointer (some ⟨gp, 0 + lev * 32, none⟩)) := h2_; clear h2_; subst q_
    have q_ : v3_ = d.val := h3_; clear h3_; subst q_
    have q_ : v4_ = p.val := h4_; clear h4_; subst q_
    clear h5_
    have q_ : v6_ = (.pointer (some ⟨go, 0 + 0, none⟩)) := h6_; clear h6_; subst q_
    clear h7_
    have q_ : v8_ = (.pointer (some ⟨go, 0 + 1, none⟩)) := h8_; clear h8_; subst q_
    clear h9_
    have q_ : v10_ = (.pointer (some ⟨go, 0 + 33, none⟩)) := h10_; clear h10_; subst q_
    clear h11_
    have HQ := hid hq_; clear hq_
    simp only [putsD, Act.put, List.setIfInBounds_toArray, List.set_cons_succ, List.set_cons_zero]
    have hq2_ : Holds w0 S ((g8_, objC p.cells 80) :: (g7_, objC y.cells 34) :: (g6_, objC x.cells 34) :: (pre ++ (go, twoO lev d p) :: (gp, psO ps) :: post)) rows wq := HQ.out
    clear HH HQ
    have HH := hid hq2_
    clear hq2_
    go_wp2_with (first
      | ((first
          | ((with_reducible apply wpL_skip); rfl; skip)
          | ((with_reducible apply wpL_nilCheck); rfl; rfl)
          | ((with_reducible apply wpL_fieldAddr); (first | exact kF82_0 | exact kF82_1 | exact kF82_2); rfl; rfl)
          | ((with_reducible apply wpL_loadArr (t := 34) kA34 HH.out); rfl; (first | exact .here | exact .there .here | exact .there (.there .here) | exact .there (.there (.there .here)) | exact .there (.there (.there (.there .here))) | exact .there (.there (.there (.there (.there .here)))) | exact .there (.there (.there (.there (.there (.there .here))))) | exact .there (.there (.there (.there (.there (.there (.there .here))))))); rfl)
          | ((with_reducible apply wpL_loadC (t := 34) kA34 HH.out); rfl; (first | exact .here | exact .there .here | exact .there (.there .here) | exact .there (.there (.there .here)) | exact .there (.there (.there (.there .here))) | exact .there (.there (.there (.there (.there .here)))) | exact .there (.there (.there (.there (.there (.there .here))))) | exact .there (.there (.there (.there (.there (.there (.there .here))))))); (first | rfl | exact Arr.len _ | (simp; done)); rfl)
          | ((with_reducible apply wpL_loadC (t := 80) kA80 HH.out); rfl; (first | exact .here | exact .there .here | exact .there (.there .here) | exact .there (.there (.there .here)) | exact .there (.there (.there (.there .here))) | exact .there (.there (.there (.there (.there .here)))) | exact .there (.there (.there (.there (.there (.there .here))))) | exact .there (.there (.there (.there (.there (.there (.there .here))))))); (first | rfl | exact Arr.len _ | (simp; done)); rfl)
          | ((with_reducible apply wpL_boxArr (dst := some 6)); rfl; (exact HH.out); rfl; (intro g6_ w_ hq_; (try simp only [List.set_cons_zero, List.set_cons_succ] at hq_); clear HH; have HH := hid hq_; clear hq_))
          | ((with_reducible apply wpL_boxArr (dst := some 7)); rfl; (exact HH.out); rfl; (intro g7_ w_ hq_; (try simp only [List.set_cons_zero, List.set_cons_succ] at hq_); clear HH; have HH := hid hq_; clear hq_))
          | ((with_reducible apply wpL_allocC (dst := some 8) kZ80 HH.out); rfl; (intro g8_ w_ hq_; (try simp only [List.set_cons_zero, List.set_cons_succ] at hq_); clear HH; have HH := hid hq_; clear hq_))
          | ((with_reducible apply wpL_store1 (t := 3)); rfl; rfl; rfl; (exact kS3); (exact HH.out); (first | exact .here | exact .there .here | exact .there (.there .here) | exact .there (.there (.there .here)) | exact .there (.there (.there (.there .here))) | exact .there (.there (.there (.there (.there .here)))) | exact .there (.there (.there (.there (.there (.there .here))))) | exact .there (.there (.there (.there (.there (.there (.there .here))))))); rfl; (first | exact Nat.le_of_ble_eq_true rfl | (simp; done) | omega); rfl; (intro w_ hq_; (try simp only [List.set_cons_zero, List.set_cons_succ] at hq_); clear HH; have HH := hid hq_; clear hq_))
          | ((with_reducible apply wpL_storeC (t := 80)); rfl; rfl; (exact kS80); (exact HH.out); (first | exact .here | exact .there .here | exact .there (.there .here) | exact .there (.there (.there .here)) | exact .there (.there (.there (.there .here))) | exact .there (.there (.there (.there (.there .here)))) | exact .there (.there (.there (.there (.there (.there .here))))) | exact .there (.there (.there (.there (.there (.there (.there .here))))))); (first | rfl | exact Arr.len _ | (simp; done)); (first | rfl | (intro u_ hu_; simp only [List.mem_cons, List.not_mem_nil, or_false] at hu_; rcases hu_ with rfl | hu_; rfl) | exact byt_cell1 _ | exact cells_one _ | exact wrd_one _ | exact flat_cell1 _); (first | rfl | exact Arr.len _ | (simp; done)); rfl; (intro w_ hq_; (try simp only [List.set_cons_zero, List.set_cons_succ] at hq_); clear HH; have HH := hid hq_; clear hq_))
          | ((with_reducible apply wpL_storeC (t := 82)); rfl; rfl; (exact kS82); (exact HH.out); (first | exact .here | exact .there .here | exact .there (.there .here) | exact .there (.there (.there .here)) | exact .there (.there (.there (.there .here))) | exact .there (.there (.there (.there (.there .here)))) | exact .there (.there (.there (.there (.there (.there .here))))) | exact .there (.there (.there (.there (.there (.there (.there .here))))))); (first | rfl | exact Arr.len _ | (simp; done)); (first | rfl | (intro u_ hu_; simp only [List.mem_cons, List.not_mem_nil, or_false] at hu_; rcases hu_ with rfl | hu_; rfl) | exact byt_cell1 _ | exact cells_one _ | exact wrd_one _ | exact flat_cell1 _); (first | rfl | exact Arr.len _ | (simp; done)); rfl; (intro w_ hq_; (try simp only [List.set_cons_zero, List.set_cons_succ] at hq_); clear HH; have HH := hid hq_; clear hq_))
          | ((with_reducible apply wpL_move); rfl; rfl)
          | ((with_reducible apply wpL_assign); rfl; rfl)
          | ((with_reducible apply wpL_pick); rfl; rfl; rfl)
          | ((with_reducible apply wpL_not); rfl; rfl)
          | ((with_reducible apply wpL_cmp (b := true)); rfl; rfl; rfl; (first | rfl | assumption | (simp only [cmpB, decide_eq_true_eq, decide_eq_false_iff_not, beq_iff_eq, bne_iff_ne, ne_eq, beq_eq_false_iff_ne, bne_eq_false_iff_eq, gt_iff_lt, ge_iff_le]; omega) | (simp; omega)); rfl)
          | ((with_reducible apply wpL_cmp (b := false)); rfl; rfl; rfl; (first | rfl | assumption | (simp only [cmpB, decide_eq_true_eq, decide_eq_false_iff_not, beq_iff_eq, bne_iff_ne, ne_eq, beq_eq_false_iff_ne, bne_eq_false_iff_eq, gt_iff_lt, ge_iff_le]; omega) | (simp; omega)); rfl)
          | ((with_reducible apply wpL_cmp); rfl; rfl; rfl; rfl; rfl)
          | ((with_reducible apply wpL_arith); rfl; rfl; rfl; (exact IntWalk.i64_in _ (by (try simp only [arithI]); omega)); rfl)); (try simp only [arithI, Act.put, Act.eval, List.setIfInBounds_toArray, List.set_cons_succ, List.set_cons_zero, Array.getD_eq_getD_getElem?, List.getElem?_toArray, List.getElem?_cons_succ, List.getElem?_cons_zero, Option.getD_some])))
    refine ⟨rfl, _, res0 rfl, rfl, ?_⟩
    rw [HOUT.out]
    exact HH.out.dropBlk.dropBlk.dropBlk
end Go.Proofs.Ytgkfopodhikckaa

namespace Go.Proofs.Ytgkfopodhikckaa
open Go.RowKit
attribute [local irreducible] wpQuiet wpList
set_option maxRecDepth 100000 in
theorem kZ82b : (Try.prog.info? 82).map (·.zero) = some (some (.agg (twoCs 0 zP zP).toArray)) := by kernel_rfl
set_option maxRecDepth 100000 in
theorem kZ131b : (Try.prog.info? 131).map (·.zero) = some (some (.agg (flat (List.replicate 11 zP)).toArray)) := by kernel_rfl
set_option maxRecDepth 100000 in
theorem BZ82 (w : World) : (Instr.build 82 #[]).run Try.prog w = .ok (.agg (twoCs 0 zP zP).toArray) w := by kernel_rfl
theorem two_stB (l0 l1 : Int) (a b A B : Arr 32) : (twoCs l0 a b).take 0 ++ twoCs l1 A B ++ (twoCs l0 a b).drop (0 + 65) = twoCs l1 A B := by
  rw [List.drop_eq_nil_of_le (by rw [two_len]; decide), List.take_zero, List.nil_append, List.append_nil]
/-- The pairs that the first climb notes. -/
def psAt (i : Nat) (x : Nd) (p : List Nd) : Nat → List (Arr 32)
  | 0 => List.replicate 11 zP
  | k + 1 => (psAt i x p k).set (k + 1) (pairA i x p k)
theorem psAt_len (i : Nat) (x : Nd) (p : List Nd) : ∀ k, (psAt i x p k).length = 11
  | 0 => by simp [psAt]
  | k + 1 => by rw [psAt, List.length_set, psAt_len i x p k]
theorem psAt_get (i : Nat) (x : Nd) (p : List Nd) (j : Nat) : ∀ k, j < k → k ≤ 10 → (psAt i x p k).getD (j + 1) zP = pairA i x p j
  | 0, h, _ => by omega
  | k + 1, h, hk => by
    rw [psAt, List.getD_eq_getElem?_getD]
    by_cases e : j = k
    · subst e
      rw [List.getElem?_set_self (by rw [psAt_len]; omega)]; rfl
    · rw [List.getElem?_set_ne (by omega), ← List.getD_eq_getElem?_getD]
      exact psAt_get i x p j k (by omega) (by omega)
/-- The highest place below k at which two lists of pairs differ. -/
def topD (f g : Nat → Arr 32) : Nat → Int × Arr 32 × Arr 32
  | 0 => (0, zP, zP)
  | k + 1 => if g k = f k then topD f g k else (((k + 1 : Nat) : Int), f k, g k)
theorem topD_step {i : Nat} {a b : Nd} {pa pb : List Nd} {n k : Nat} (hk : k < n) (hn : n ≤ 10) :
    outN (psAt i a pa n) (k + 1) (pairA i b pb k) (topD (pairA i a pa) (pairA i b pb) k) = topD (pairA i a pa) (pairA i b pb) (k + 1) := by
  unfold outN
  rw [psAt_get i a pa k n hk hn]
  rfl
theorem topD_step' {i : Nat} {a b : Nd} {pa pb : List Nd} {n k : Nat} (hk : k < n) (hn : n ≤ 10) :
    outN (psAt i a pa n) (k + 1) (jn (pairC i k (curAt i b pb k) (pb.getD k Nd0)).1 (pairC i k (curAt i b pb k) (pb.getD k Nd0)).2) (topD (pairA i a pa) (pairA i b pb) k) = topD (pairA i a pa) (pairA i b pb) (k + 1) := topD_step hk hn
def collOK (i : Int) (a : Nd) (pa : List Nd) (b : Nd) (pb : List Nd) : Prop := fromC i pa.length = 0 ∧ fromC i pb.length = 0 ∧ pa.length = pb.length ∧ fromV a i pa = fromV b i pb
instance (i : Int) (a : Nd) (pa : List Nd) (b : Nd) (pb : List Nd) : Decidable (collOK i a pa b pb) := by unfold collOK; infer_instance
def collV (i : Int) (a : Nd) (pa : List Nd) (b : Nd) (pb : List Nd) : Int × Arr 32 × Arr 32 := if collOK i a pa b pb then topD (pairA i.toNat a pa) (pairA i.toNat b pb) pa.length else (0, zP, zP)
def RetC (w : World) (o : Int × Arr 32 × Arr 32) (e : Ending) (w' : World) : Prop := e = .returned (.tuple #[.agg (twoCs o.1 o.2.1 o.2.2).toArray, .bool (decide (0 < o.1))]) ∧ Below w.heap.size w w'
theorem fromC_zero {i : Int} {n : Nat} (h : fromC i n = 0) : n ≤ 10 ∧ 0 ≤ i ∧ i < ((2 ^ n : Nat) : Int) := by
  unfold fromC at h
  split at h
  · cases h
  · split at h
    · cases h
    · rename_i h1 h2
      exact ⟨by omega, by omega, by omega⟩
set_option maxRecDepth 100000 in
set_option maxHeartbeats 8000000 in
theorem coll_any (w : World) (va vb : Value) (i : Int) (a b : Nd) (pa pb : List Nd) (ha : Arrs w va pa) (hb : Arrs w vb pb) (hna : pa.length ≤ 1000000000) (hnb : pb.length ≤ 1000000000) :
    Calls Try.prog 48 #[.int .i64 i, a.val, va, b.val, vb] w (RetC w (collV i a pa b pb)) := by
  obtain ⟨ua, ca, rfl, _⟩ := ha.shape
  obtain ⟨ub, cb, rfl, _⟩ := hb.shape
  have HPA := hid ha
  have HPB := hid hb
  clear ha hb
  have HH := hid (Holds.init w)
  obtain ⟨ea, hea⟩ : ∃ ea, fromC i pa.length = ea := ⟨_, rfl⟩
  obtain ⟨eb, heb⟩ : ∃ eb, fromC i pb.length = eb := ⟨_, rfl⟩
  obtain ⟨ra, hra⟩ : ∃ ra, fromV a i pa = ra := ⟨_, rfl⟩
  obtain ⟨rb, hrb⟩ : ∃ rb, fromV b i pb = rb := ⟨_, rfl⟩
  have HEA := hid hea
  have HEB := hid heb
  have HRA := hid hra
  have HRB := hid hrb
  by_cases h1 : ea = 0
  · subst h1
    by_cases h2 : eb = 0
    · subst h2
      by_cases h3 : pa.length = pb.length
      · by_cases h4 : ra = rb
        · subst h4
          have hok : collOK i a pa b pb := ⟨hea, heb, h3, hra.trans hrb.symm⟩
          obtain ⟨h10, hi0, hi2⟩ := fromC_zero hea
          obtain ⟨j, rfl⟩ : ∃ j : Nat, i = j := ⟨i.toNat, by omega⟩
          have hp10 : 2 ^ pa.length ≤ 2 ^ 10 := Nat.pow_le_pow_right (by decide) h10
          have hj : j ≤ 1024 := by omega
          obtain ⟨⟨lv, A, B⟩, ho⟩ : ∃ o, topD (pairA j a pa) (pairA j b pb) pa.length = o := ⟨_, rfl⟩
          have hv : collV (j : Int) a pa b pb = (lv, A, B) := by unfold collV; rw [if_pos hok]; exact ho
          rw [hv]
          have HO := hid ho
          have HLEN := hid h3
          have HNE := hid (arrNe ra)
          have hlen : ((pa.length : Int) != (pb.length : Int)) = false := by simp [h3]
          have hpb10 : pb.length ≤ 10 := by omega
          clear hv hok hea heb hra hrb ho hi0 hi2 hp10 h3
          go_enter Try.func48, Try.ntmps48
          go_wp2_with (first
            | ((first
                | ((with_reducible apply wpL_skip); rfl; skip)
                | ((with_reducible apply wpL_allocC (dst := some 10) (zs := twoCs 0 zP zP) kZ82b HH.out); rfl; (intro g10_ w_ hq_; clear HH; have HH := hid hq_; clear hq_))
                | (go_at_call 54; (have hcall_ := hid (from_any _ (.slice ua pa.length ca) a (j:Int) pa (HH.out.sl HPA.out) hna)); (with_reducible refine hcall_.out.mono ?_); clear hcall_; rw [HRA.out, HEA.out]; rintro e_ w2_ ⟨rfl, hb_⟩; (have hq_ := HH.out.grow hb_); clear HH; have HH := hid hq_; clear hq_ hb_)
                | (go_at_call 54; (have hcall_ := hid (from_any _ (.slice ub pb.length cb) b (j:Int) pb (HH.out.sl HPB.out) hnb)); (with_reducible refine hcall_.out.mono ?_); clear hcall_; rw [HRB.out, HEB.out]; rintro e_ w2_ ⟨rfl, hb_⟩; (have hq_ := HH.out.grow hb_); clear HH; have HH := hid hq_; clear hq_ hb_)
                | ((with_reducible apply wpL_neqA (b := false) (p := ra) (q := ra) kR34); rfl; rfl; (exact HNE.out); rfl)
                | ((with_reducible apply wpL_allocC (dst := some 16) (zs := flat (List.replicate 11 zP)) kZ131b HH.out); rfl; (intro g16_ w_ hq_; clear HH; have HH := hid hq_; clear hq_))
                | ((with_reducible apply wpL_allocC (dst := some 17) (zs := twoCs 0 zP zP) kZ82b HH.out); rfl; (intro g17_ w_ hq_; clear HH; have HH := hid hq_; clear hq_))
                | ((with_reducible apply wpL_makeFunc (dst := some 54) (vs := #[.pointer (some ⟨g16_, 0, none⟩)])); rfl; rfl)
                | ((with_reducible apply wpL_makeFunc (dst := some 59) (vs := #[.pointer (some ⟨g16_, 0, none⟩), .pointer (some ⟨g17_, 0, none⟩)])); rfl; rfl)
                | (go_at_call 73; (have hcall_ := hid (climb_any w _ [] (fun k => (g16_, psO (psAt j a pa k)) :: [(g14_, objC ra.cells 34), (g12_, objC ra.cells 34), (g10_, twoO 0 zP zP), (g8_, objC b.cells 34), (g6_, objC a.cells 34)]) [] 74 #[.pointer (some ⟨g16_, 0, none⟩)] kB74 (.slice ua pa.length ca) a pa j (fun bs w1 h1 => h1.sl HPA.out) h10 hj HH.out (fun k hk ex w1 h1 => (c1_any w w1 [] ex _ [] g16_ (k + 1) (psAt j a pa k) _ _ (psAt_len _ _ _ _) (by omega) h1)))); (with_reducible refine hcall_.out.mono ?_); clear hcall_; rintro e_ w2_ ⟨rfl, hq_⟩; clear HH; have HH := hid hq_; clear hq_)
                | (go_at_call 73; (have hcall_ := hid (climb_any w _ [] (fun k => (g17_, twoO (topD (pairA j a pa) (pairA j b pb) k).1 (topD (pairA j a pa) (pairA j b pb) k).2.1 (topD (pairA j a pa) (pairA j b pb) k).2.2) :: (g16_, psO (psAt j a pa pa.length)) :: [(g14_, objC ra.cells 34), (g12_, objC ra.cells 34), (g10_, twoO 0 zP zP), (g8_, objC b.cells 34), (g6_, objC a.cells 34)]) [] 75 #[.pointer (some ⟨g16_, 0, none⟩), .pointer (some ⟨g17_, 0, none⟩)] kB75 (.slice ub pb.length cb) b pb j (fun bs w1 h1 => h1.sl HPB.out) hpb10 hj HH.out (fun k hk ex w1 h1 => (c2_any w w1 [] ex _ [] g16_ g17_ (k + 1) (psAt j a pa pa.length) _ _ (topD (pairA j a pa) (pairA j b pb) k) (psAt_len _ _ _ _) (by omega) h1).mono fun e w2 hq => ⟨hq.1, by have h2 := hq.2; rw [topD_step' (by have := HLEN.out; omega) h10] at h2; exact h2⟩))); (with_reducible refine hcall_.out.mono ?_); clear hcall_; rw [← HLEN.out, HO.out]; rintro e_ w2_ ⟨rfl, hq_⟩; clear HH; have HH := hid hq_; clear hq_)
                | ((with_reducible apply wpL_nilCheck); rfl; rfl)
                | ((with_reducible apply wpL_fieldAddr); (first | exact kF82_0); rfl; rfl)
                | ((with_reducible apply wpL_load1 (t := 3) kO3 HH.out); rfl; (first | exact .here | exact .there .here | exact .there (.there .here) | exact .there (.there (.there .here)) | exact .there (.there (.there (.there .here))) | exact .there (.there (.there (.there (.there .here)))) | exact .there (.there (.there (.there (.there (.there .here))))) | exact .there (.there (.there (.there (.there (.there (.there .here))))))); rfl; rfl)
                | ((with_reducible apply wpL_loadArr (t := 34) kA34 HH.out); rfl; (first | exact .here | exact .there .here | exact .there (.there .here) | exact .there (.there (.there .here)) | exact .there (.there (.there (.there .here))) | exact .there (.there (.there (.there (.there .here)))) | exact .there (.there (.there (.there (.there (.there .here))))) | exact .there (.there (.there (.there (.there (.there (.there .here))))))); rfl)
                | ((with_reducible apply wpL_loadC (t := 34) kA34 HH.out); rfl; (first | exact .here | exact .there .here | exact .there (.there .here) | exact .there (.there (.there .here)) | exact .there (.there (.there (.there .here))) | exact .there (.there (.there (.there (.there .here)))) | exact .there (.there (.there (.there (.there (.there .here))))) | exact .there (.there (.there (.there (.there (.there (.there .here))))))); (first | rfl | exact Arr.len _ | (simp; done)); rfl)
                | ((with_reducible apply wpL_loadC (t := 82) kA82 HH.out); rfl; (first | exact .here | exact .there .here | exact .there (.there .here) | exact .there (.there (.there .here)) | exact .there (.there (.there (.there .here))) | exact .there (.there (.there (.there (.there .here)))) | exact .there (.there (.there (.there (.there (.there .here))))) | exact .there (.there (.there (.there (.there (.there (.there .here))))))); (first | rfl | exact Arr.len _ | (simp; done)); rfl)
                | ((with_reducible apply wpL_len (t := 46) Try.underlying46); rfl; rfl)
                | ((with_reducible apply wpL_boxArr (dst := some 6)); rfl; (exact HH.out); rfl; (intro g6_ w_ hq_; (try simp only [List.set_cons_zero, List.set_cons_succ] at hq_); clear HH; have HH := hid hq_; clear hq_))
                | ((with_reducible apply wpL_boxArr (dst := some 8)); rfl; (exact HH.out); rfl; (intro g8_ w_ hq_; (try simp only [List.set_cons_zero, List.set_cons_succ] at hq_); clear HH; have HH := hid hq_; clear hq_))
                | ((with_reducible apply wpL_allocC (dst := some 10) kZ82 HH.out); rfl; (intro g10_ w_ hq_; (try simp only [List.set_cons_zero, List.set_cons_succ] at hq_); clear HH; have HH := hid hq_; clear hq_))
                | ((with_reducible apply wpL_allocC (dst := some 12) kZ34 HH.out); rfl; (intro g12_ w_ hq_; (try simp only [List.set_cons_zero, List.set_cons_succ] at hq_); clear HH; have HH := hid hq_; clear hq_))
                | ((with_reducible apply wpL_allocC (dst := some 14) kZ34 HH.out); rfl; (intro g14_ w_ hq_; (try simp only [List.set_cons_zero, List.set_cons_succ] at hq_); clear HH; have HH := hid hq_; clear hq_))
                | ((with_reducible apply wpL_allocC (dst := some 16) kZ131 HH.out); rfl; (intro g16_ w_ hq_; (try simp only [List.set_cons_zero, List.set_cons_succ] at hq_); clear HH; have HH := hid hq_; clear hq_))
                | ((with_reducible apply wpL_allocC (dst := some 17) kZ82 HH.out); rfl; (intro g17_ w_ hq_; (try simp only [List.set_cons_zero, List.set_cons_succ] at hq_); clear HH; have HH := hid hq_; clear hq_))
                | ((with_reducible apply wpL_storeArr (t := 34) kS34 HH.out); rfl; rfl; (first | exact .here | exact .there .here | exact .there (.there .here) | exact .there (.there (.there .here)) | exact .there (.there (.there (.there .here))) | exact .there (.there (.there (.there (.there .here)))) | exact .there (.there (.there (.there (.there (.there .here))))) | exact .there (.there (.there (.there (.there (.there (.there .here))))))); (first | rfl | exact Arr.len _ | (simp; done)); rfl; (intro w_ hq_; (try simp only [List.set_cons_zero, List.set_cons_succ] at hq_); clear HH; have HH := hid hq_; clear hq_))
                | ((with_reducible apply wpL_storeC (t := 34)); rfl; rfl; (exact kS34); (exact HH.out); (first | exact .here | exact .there .here | exact .there (.there .here) | exact .there (.there (.there .here)) | exact .there (.there (.there (.there .here))) | exact .there (.there (.there (.there (.there .here)))) | exact .there (.there (.there (.there (.there (.there .here))))) | exact .there (.there (.there (.there (.there (.there (.there .here))))))); (first | rfl | exact Arr.len _ | (simp; done)); (first | rfl | (intro u_ hu_; simp only [List.mem_cons, List.not_mem_nil, or_false] at hu_; rcases hu_ with rfl | hu_; rfl) | exact byt_cell1 _ | exact cells_one _ | exact wrd_one _ | exact flat_cell1 _); (first | rfl | exact Arr.len _ | (simp; done)); rfl; (intro w_ hq_; (try simp only [List.set_cons_zero, List.set_cons_succ] at hq_); clear HH; have HH := hid hq_; clear hq_))
                | ((with_reducible apply wpL_storeC (t := 82)); rfl; rfl; (exact kS82); (exact HH.out); (first | exact .here | exact .there .here | exact .there (.there .here) | exact .there (.there (.there .here)) | exact .there (.there (.there (.there .here))) | exact .there (.there (.there (.there (.there .here)))) | exact .there (.there (.there (.there (.there (.there .here))))) | exact .there (.there (.there (.there (.there (.there (.there .here))))))); (first | rfl | exact Arr.len _ | (simp; done)); (first | rfl | (intro u_ hu_; simp only [List.mem_cons, List.not_mem_nil, or_false] at hu_; rcases hu_ with rfl | hu_; rfl) | exact byt_cell1 _ | exact cells_one _ | exact wrd_one _ | exact flat_cell1 _); (first | rfl | exact Arr.len _ | (simp; done)); rfl; (intro w_ hq_; (try simp only [List.set_cons_zero, List.set_cons_succ] at hq_); clear HH; have HH := hid hq_; clear hq_))
                | ((with_reducible apply wpL_move); rfl; rfl)
                | ((with_reducible apply wpL_assign); rfl; rfl)
                | ((with_reducible apply wpL_pick); rfl; rfl; rfl)
                | ((with_reducible apply wpL_not); rfl; rfl)
                | ((with_reducible apply wpL_cmp (b := true)); rfl; rfl; rfl; (first | rfl | assumption | (simp only [cmpB, decide_eq_true_eq, decide_eq_false_iff_not, beq_iff_eq, bne_iff_ne, ne_eq, beq_eq_false_iff_ne, bne_eq_false_iff_eq, gt_iff_lt, ge_iff_le]; omega) | (simp; omega)); rfl)
                | ((with_reducible apply wpL_cmp (b := false)); rfl; rfl; rfl; (first | rfl | assumption | (simp only [cmpB, decide_eq_true_eq, decide_eq_false_iff_not, beq_iff_eq, bne_iff_ne, ne_eq, beq_eq_false_iff_ne, bne_eq_false_iff_eq, gt_iff_lt, ge_iff_le]; omega) | (simp; omega)); rfl)
                | ((with_reducible apply wpL_cmp); rfl; rfl; rfl; rfl; rfl)
                | ((with_reducible apply wpL_arith); rfl; rfl; rfl; (exact IntWalk.i64_in _ (by (try simp only [arithI]); omega)); rfl)); (try simp only [arithI, Act.put, Act.eval, List.setIfInBounds_toArray, List.set_cons_succ, List.set_cons_zero, Array.getD_eq_getD_getElem?, List.getElem?_toArray, List.getElem?_cons_succ, List.getElem?_cons_zero, Option.getD_some])))
          have hq2_ : Holds w [] ([(g17_, twoO lv A B), (g16_, psO (psAt j a pa pa.length)), (g14_, objC ra.cells 34), (g12_, objC ra.cells 34)] ++ (g10_, twoO 0 zP zP) :: [(g8_, objC b.cells 34), (g6_, objC a.cells 34)]) [] _ := HH.out
          clear HH
          have HH := hid hq2_
          clear hq2_
          refine wp_region_F [(fun u_ => u_ = (.agg (twoCs lv A B).toArray)), (fun u_ => u_ = (.pointer (some ⟨g17_, 0 + 0, none⟩))), (fun u_ => u_ = (.int .i64 lv)), (fun u_ => u_ = (.bool (decide (0 < lv)))), (fun _ => True), (fun u_ => u_ = (.bool (decide (0 < lv))))] (StJ w [] [(g17_, twoO lv A B), (g16_, psO (psAt j a pa pa.length)), (g14_, objC ra.cells 34), (g12_, objC ra.cells 34)] [(g8_, objC b.cells 34), (g6_, objC a.cells 34)] [] g10_ (fun l => selO (l 4) (twoO 0 zP zP) (twoO lv A B))) (by kernel_rfl) (by kernel_rfl) rfl (HH.out.drew) ?_ ?_
          · refine eachD_cons ?_ (eachD_cons ?_ (eachD_cons ?_ (eachD_cons ?_ (eachD_cons ?_ (eachD_cons ?_ (eachD_nil))))))
            · intro li_ a_ w1 hc hi hJ hF hS
              have e17 : a_.eval (.tmp 17) = (.pointer (some ⟨g17_, 0, none⟩)) := (hF.2.2 17 (notDst_of (by kernel_rfl))).trans rfl
              refine wantD (by rfl) ?_
              exact ok_load kA82 hJ e17 .here (two_len _ _ _) ⟨hJ, rfl⟩
            · intro li_ a_ w1 hc hi hJ hF hS
              have e17 : a_.eval (.tmp 17) = (.pointer (some ⟨g17_, 0, none⟩)) := (hF.2.2 17 (notDst_of (by kernel_rfl))).trans rfl
              refine wantD (by rfl) ?_
              exact opF_val rfl (ex_fieldAddr kF82_0 e17 w1) hJ rfl
            · intro li_ a_ w1 hc hi hJ hF hS
              have l1 : li_ 1 = true := (hS ⟨1, .data⟩ (by simp) rfl).1
              have e62 : a_.eval (.tmp 62) = (.pointer (some ⟨g17_, 0 + 0, none⟩)) := (hS ⟨1, .data⟩ (by simp) rfl).2 _ rfl
              refine wantD (by rfl) ?_
              exact opF_val rfl (ex_load1 (cs := twoCs lv A B) (e := 82) kO3 hJ e62 .here rfl) hJ rfl
            · intro li_ a_ w1 hc hi hJ hF hS
              have l2 : li_ 2 = true := (hS ⟨2, .data⟩ (by simp) rfl).1
              have e63 : a_.eval (.tmp 63) = (.int .i64 lv) := (hS ⟨2, .data⟩ (by simp) rfl).2 _ rfl
              refine wantD (by rfl) ?_
              exact opF_val rfl (ex_cmp (b := decide (0 < lv)) rfl e63 rfl rfl w1) hJ rfl
            · intro li_ a_ w1 hc hi hJ hF hS
              have l0 : li_ 0 = true := (hS ⟨0, .data⟩ (by simp) rfl).1
              have e10 : a_.eval (.tmp 10) = (.pointer (some ⟨g10_, 0, none⟩)) := (hF.2.2 10 (notDst_of (by kernel_rfl))).trans rfl
              have e61 : a_.eval (.tmp 61) = (.agg (twoCs lv A B).toArray) := (hS ⟨0, .data⟩ (by simp) rfl).2 _ rfl
              refine wantD (by rfl) ?_
              exact stJ_store (i := 4) hJ (show selO (li_ 4) (twoO 0 zP zP) (twoO lv A B) = twoO 0 zP zP by rw [hi]; rfl) rfl (two_stB 0 lv zP zP A B) e10 e61 (by simp [Value.cells]) kS82 (two_len _ _ _) (two_one _ _ _) (by rw [two_len]; decide)
            · intro li_ a_ w1 hc hi hJ hF hS
              have l3 : li_ 3 = true := (hS ⟨3, .data⟩ (by simp) rfl).1
              have l4 : li_ 4 = true := (hS ⟨4, .chain⟩ (by simp) rfl).1
              have l0 : li_ 0 = true := (hS ⟨0, .phase⟩ (by simp) rfl).1
              have l1 : li_ 1 = true := (hS ⟨1, .phase⟩ (by simp) rfl).1
              have l2 : li_ 2 = true := (hS ⟨2, .phase⟩ (by simp) rfl).1
              have e64 : a_.eval (.tmp 64) = (.bool (decide (0 < lv))) := (hS ⟨3, .data⟩ (by simp) rfl).2 _ rfl
              refine wantD (by rfl) ?_
              exact opF_val rfl (ex_assign rfl w1) hJ e64
          intro v0_ h0_ v1_ h1_ v2_ h2_ v3_ h3_ v4_ h4_ v5_ h5_
          intro wq hq_
          have q_ : v0_ = (.agg (twoCs lv A B).toArray) := h0_; clear h0_; subst q_
          have q_ : v1_ = (.pointer (some ⟨g17_, 0 + 0, none⟩)) := h1_; clear h1_; subst q_
          have q_ : v2_ = (.int .i64 lv) := h2_; clear h2_; subst q_
          have q_ : v3_ = (.bool (decide (0 < lv))) := h3_; clear h3_; subst q_
          clear h4_
          have q_ : v5_ = (.bool (decide (0 < lv))) := h5_; clear h5_; subst q_
          have HQ := hid hq_; clear hq_
          simp only [putsD, Act.put, List.setIfInBounds_toArray, List.set_cons_succ, List.set_cons_zero]
          have hq2_ : Holds w [] [(g17_, twoO lv A B), (g16_, psO (psAt j a pa pa.length)), (g14_, objC ra.cells 34), (g12_, objC ra.cells 34), (g10_, twoO lv A B), (g8_, objC b.cells 34), (g6_, objC a.cells 34)] [] wq := HQ.out
          clear HH HQ
          have HH := hid hq2_
          clear hq2_
          go_wp2_with (first
            | ((first
                | ((with_reducible apply wpL_skip); rfl; skip)
                | ((with_reducible apply wpL_nilCheck); rfl; rfl)
                | ((with_reducible apply wpL_fieldAddr); (first | exact kF82_0); rfl; rfl)
                | ((with_reducible apply wpL_load1 (t := 3) kO3 HH.out); rfl; (first | exact .here | exact .there .here | exact .there (.there .here) | exact .there (.there (.there .here)) | exact .there (.there (.there (.there .here))) | exact .there (.there (.there (.there (.there .here)))) | exact .there (.there (.there (.there (.there (.there .here))))) | exact .there (.there (.there (.there (.there (.there (.there .here))))))); rfl; rfl)
                | ((with_reducible apply wpL_loadArr (t := 34) kA34 HH.out); rfl; (first | exact .here | exact .there .here | exact .there (.there .here) | exact .there (.there (.there .here)) | exact .there (.there (.there (.there .here))) | exact .there (.there (.there (.there (.there .here)))) | exact .there (.there (.there (.there (.there (.there .here))))) | exact .there (.there (.there (.there (.there (.there (.there .here))))))); rfl)
                | ((with_reducible apply wpL_loadC (t := 34) kA34 HH.out); rfl; (first | exact .here | exact .there .here | exact .there (.there .here) | exact .there (.there (.there .here)) | exact .there (.there (.there (.there .here))) | exact .there (.there (.there (.there (.there .here)))) | exact .there (.there (.there (.there (.there (.there .here))))) | exact .there (.there (.there (.there (.there (.there (.there .here))))))); (first | rfl | exact Arr.len _ | (simp; done)); rfl)
                | ((with_reducible apply wpL_loadC (t := 82) kA82 HH.out); rfl; (first | exact .here | exact .there .here | exact .there (.there .here) | exact .there (.there (.there .here)) | exact .there (.there (.there (.there .here))) | exact .there (.there (.there (.there (.there .here)))) | exact .there (.there (.there (.there (.there (.there .here))))) | exact .there (.there (.there (.there (.there (.there (.there .here))))))); (first | rfl | exact Arr.len _ | (simp; done)); rfl)
                | ((with_reducible apply wpL_len (t := 46) Try.underlying46); rfl; rfl)
                | ((with_reducible apply wpL_boxArr (dst := some 6)); rfl; (exact HH.out); rfl; (intro g6_ w_ hq_; (try simp only [List.set_cons_zero, List.set_cons_succ] at hq_); clear HH; have HH := hid hq_; clear hq_))
                | ((with_reducible apply wpL_boxArr (dst := some 8)); rfl; (exact HH.out); rfl; (intro g8_ w_ hq_; (try simp only [List.set_cons_zero, List.set_cons_succ] at hq_); clear HH; have HH := hid hq_; clear hq_))
                | ((with_reducible apply wpL_allocC (dst := some 10) kZ82 HH.out); rfl; (intro g10_ w_ hq_; (try simp only [List.set_cons_zero, List.set_cons_succ] at hq_); clear HH; have HH := hid hq_; clear hq_))
                | ((with_reducible apply wpL_allocC (dst := some 12) kZ34 HH.out); rfl; (intro g12_ w_ hq_; (try simp only [List.set_cons_zero, List.set_cons_succ] at hq_); clear HH; have HH := hid hq_; clear hq_))
                | ((with_reducible apply wpL_allocC (dst := some 14) kZ34 HH.out); rfl; (intro g14_ w_ hq_; (try simp only [List.set_cons_zero, List.set_cons_succ] at hq_); clear HH; have HH := hid hq_; clear hq_))
                | ((with_reducible apply wpL_allocC (dst := some 16) kZ131 HH.out); rfl; (intro g16_ w_ hq_; (try simp only [List.set_cons_zero, List.set_cons_succ] at hq_); clear HH; have HH := hid hq_; clear hq_))
                | ((with_reducible apply wpL_allocC (dst := some 17) kZ82 HH.out); rfl; (intro g17_ w_ hq_; (try simp only [List.set_cons_zero, List.set_cons_succ] at hq_); clear HH; have HH := hid hq_; clear hq_))
                | ((with_reducible apply wpL_storeArr (t := 34) kS34 HH.out); rfl; rfl; (first | exact .here | exact .there .here | exact .there (.there .here) | exact .there (.there (.there .here)) | exact .there (.there (.there (.there .here))) | exact .there (.there (.there (.there (.there .here)))) | exact .there (.there (.there (.there (.there (.there .here))))) | exact .there (.there (.there (.there (.there (.there (.there .here))))))); (first | rfl | exact Arr.len _ | (simp; done)); rfl; (intro w_ hq_; (try simp only [List.set_cons_zero, List.set_cons_succ] at hq_); clear HH; have HH := hid hq_; clear hq_))
                | ((with_reducible apply wpL_storeC (t := 34)); rfl; rfl; (exact kS34); (exact HH.out); (first | exact .here | exact .there .here | exact .there (.there .here) | exact .there (.there (.there .here)) | exact .there (.there (.there (.there .here))) | exact .there (.there (.there (.there (.there .here)))) | exact .there (.there (.there (.there (.there (.there .here))))) | exact .there (.there (.there (.there (.there (.there (.there .here))))))); (first | rfl | exact Arr.len _ | (simp; done)); (first | rfl | (intro u_ hu_; simp only [List.mem_cons, List.not_mem_nil, or_false] at hu_; rcases hu_ with rfl | hu_; rfl) | exact byt_cell1 _ | exact cells_one _ | exact wrd_one _ | exact flat_cell1 _); (first | rfl | exact Arr.len _ | (simp; done)); rfl; (intro w_ hq_; (try simp only [List.set_cons_zero, List.set_cons_succ] at hq_); clear HH; have HH := hid hq_; clear hq_))
                | ((with_reducible apply wpL_storeC (t := 82)); rfl; rfl; (exact kS82); (exact HH.out); (first | exact .here | exact .there .here | exact .there (.there .here) | exact .there (.there (.there .here)) | exact .there (.there (.there (.there .here))) | exact .there (.there (.there (.there (.there .here)))) | exact .there (.there (.there (.there (.there (.there .here))))) | exact .there (.there (.there (.there (.there (.there (.there .here))))))); (first | rfl | exact Arr.len _ | (simp; done)); (first | rfl | (intro u_ hu_; simp only [List.mem_cons, List.not_mem_nil, or_false] at hu_; rcases hu_ with rfl | hu_; rfl) | exact byt_cell1 _ | exact cells_one _ | exact wrd_one _ | exact flat_cell1 _); (first | rfl | exact Arr.len _ | (simp; done)); rfl; (intro w_ hq_; (try simp only [List.set_cons_zero, List.set_cons_succ] at hq_); clear HH; have HH := hid hq_; clear hq_))
                | ((with_reducible apply wpL_move); rfl; rfl)
                | ((with_reducible apply wpL_assign); rfl; rfl)
                | ((with_reducible apply wpL_pick); rfl; rfl; rfl)
                | ((with_reducible apply wpL_not); rfl; rfl)
                | ((with_reducible apply wpL_cmp (b := true)); rfl; rfl; rfl; (first | rfl | assumption | (simp only [cmpB, decide_eq_true_eq, decide_eq_false_iff_not, beq_iff_eq, bne_iff_ne, ne_eq, beq_eq_false_iff_ne, bne_eq_false_iff_eq, gt_iff_lt, ge_iff_le]; omega) | (simp; omega)); rfl)
                | ((with_reducible apply wpL_cmp (b := false)); rfl; rfl; rfl; (first | rfl | assumption | (simp only [cmpB, decide_eq_true_eq, decide_eq_false_iff_not, beq_iff_eq, bne_iff_ne, ne_eq, beq_eq_false_iff_ne, bne_eq_false_iff_eq, gt_iff_lt, ge_iff_le]; omega) | (simp; omega)); rfl)
                | ((with_reducible apply wpL_cmp); rfl; rfl; rfl; rfl; rfl)
                | ((with_reducible apply wpL_arith); rfl; rfl; rfl; (exact IntWalk.i64_in _ (by (try simp only [arithI]); omega)); rfl)); (try simp only [arithI, Act.put, Act.eval, List.setIfInBounds_toArray, List.set_cons_succ, List.set_cons_zero, Array.getD_eq_getD_getElem?, List.getElem?_toArray, List.getElem?_cons_succ, List.getElem?_cons_zero, Option.getD_some])))
          refine bodyPost_ret (res2 rfl (resC kA82 HH.out (by rfl) (.there (.there (.there (.there .here)))) (two_len _ _ _)) (by rfl)) rfl ?_
          exact ⟨rfl, HH.out.below⟩
        · have HNO := hid (show ¬ collOK i a pa b pb from fun h => h4 (by rw [← hra, ← hrb]; exact h.2.2.2))
          have HNE := hid (show (!(ra == rb)) = true by rw [Bool.not_eq_true', beq_eq_false_iff_ne]; exact h4)
          have hlen : ((pa.length : Int) != (pb.length : Int)) = false := by simp [h3]
          clear hea heb hra hrb h4 h3
          have hv : collV i a pa b pb = (0, zP, zP) := by unfold collV; rw [if_neg HNO.out]
          rw [hv]
          clear hv
          go_enter Try.func48, Try.ntmps48
          go_wp2_with (first
            | ((first
                | ((with_reducible apply wpL_skip); rfl; skip)
                | ((with_reducible apply wpL_allocC (dst := some 10) (zs := twoCs 0 zP zP) kZ82b HH.out); rfl; (intro g10_ w_ hq_; clear HH; have HH := hid hq_; clear hq_))
                | (go_at_call 54; (have hcall_ := hid (from_any _ (.slice ua pa.length ca) a i pa (HH.out.sl HPA.out) hna)); (with_reducible refine hcall_.out.mono ?_); clear hcall_; rw [HRA.out, HEA.out]; rintro e_ w2_ ⟨rfl, hb_⟩; (have hq_ := HH.out.grow hb_); clear HH; have HH := hid hq_; clear hq_ hb_)
                | (go_at_call 54; (have hcall_ := hid (from_any _ (.slice ub pb.length cb) b i pb (HH.out.sl HPB.out) hnb)); (with_reducible refine hcall_.out.mono ?_); clear hcall_; rw [HRB.out, HEB.out]; rintro e_ w2_ ⟨rfl, hb_⟩; (have hq_ := HH.out.grow hb_); clear HH; have HH := hid hq_; clear hq_ hb_)
                | ((with_reducible apply wpL_neqA (b := true) (p := ra) (q := rb) kR34); rfl; rfl; (exact HNE.out); rfl)
                | ((with_reducible apply wpList_build (parts := #[]) (v := .agg (twoCs 0 zP zP).toArray)); (exact BZ82); rfl)
                | ((with_reducible apply wpL_storeC (t := 82) (vs := twoCs 0 zP zP)); rfl; rfl; (exact kS82); (exact HH.out); (first | exact .there (.there .here) | exact .there (.there (.there .here))); (exact two_len _ _ _); (exact two_one _ _ _); (exact two_len _ _ _); rfl; (intro w_ hq_; clear HH; have HH := hid hq_; clear hq_))
                | ((with_reducible apply wpL_nilCheck); rfl; rfl)
                | ((with_reducible apply wpL_fieldAddr); (first | exact kF82_0); rfl; rfl)
                | ((with_reducible apply wpL_load1 (t := 3) kO3 HH.out); rfl; (first | exact .here | exact .there .here | exact .there (.there .here) | exact .there (.there (.there .here)) | exact .there (.there (.there (.there .here))) | exact .there (.there (.there (.there (.there .here)))) | exact .there (.there (.there (.there (.there (.there .here))))) | exact .there (.there (.there (.there (.there (.there (.there .here))))))); rfl; rfl)
                | ((with_reducible apply wpL_loadArr (t := 34) kA34 HH.out); rfl; (first | exact .here | exact .there .here | exact .there (.there .here) | exact .there (.there (.there .here)) | exact .there (.there (.there (.there .here))) | exact .there (.there (.there (.there (.there .here)))) | exact .there (.there (.there (.there (.there (.there .here))))) | exact .there (.there (.there (.there (.there (.there (.there .here))))))); rfl)
                | ((with_reducible apply wpL_loadC (t := 34) kA34 HH.out); rfl; (first | exact .here | exact .there .here | exact .there (.there .here) | exact .there (.there (.there .here)) | exact .there (.there (.there (.there .here))) | exact .there (.there (.there (.there (.there .here)))) | exact .there (.there (.there (.there (.there (.there .here))))) | exact .there (.there (.there (.there (.there (.there (.there .here))))))); (first | rfl | exact Arr.len _ | (simp; done)); rfl)
                | ((with_reducible apply wpL_loadC (t := 82) kA82 HH.out); rfl; (first | exact .here | exact .there .here | exact .there (.there .here) | exact .there (.there (.there .here)) | exact .there (.there (.there (.there .here))) | exact .there (.there (.there (.there (.there .here)))) | exact .there (.there (.there (.there (.there (.there .here))))) | exact .there (.there (.there (.there (.there (.there (.there .here))))))); (first | rfl | exact Arr.len _ | (simp; done)); rfl)
                | ((with_reducible apply wpL_len (t := 46) Try.underlying46); rfl; rfl)
                | ((with_reducible apply wpL_boxArr (dst := some 6)); rfl; (exact HH.out); rfl; (intro g6_ w_ hq_; (try simp only [List.set_cons_zero, List.set_cons_succ] at hq_); clear HH; have HH := hid hq_; clear hq_))
                | ((with_reducible apply wpL_boxArr (dst := some 8)); rfl; (exact HH.out); rfl; (intro g8_ w_ hq_; (try simp only [List.set_cons_zero, List.set_cons_succ] at hq_); clear HH; have HH := hid hq_; clear hq_))
                | ((with_reducible apply wpL_allocC (dst := some 10) kZ82 HH.out); rfl; (intro g10_ w_ hq_; (try simp only [List.set_cons_zero, List.set_cons_succ] at hq_); clear HH; have HH := hid hq_; clear hq_))
                | ((with_reducible apply wpL_allocC (dst := some 12) kZ34 HH.out); rfl; (intro g12_ w_ hq_; (try simp only [List.set_cons_zero, List.set_cons_succ] at hq_); clear HH; have HH := hid hq_; clear hq_))
                | ((with_reducible apply wpL_allocC (dst := some 14) kZ34 HH.out); rfl; (intro g14_ w_ hq_; (try simp only [List.set_cons_zero, List.set_cons_succ] at hq_); clear HH; have HH := hid hq_; clear hq_))
                | ((with_reducible apply wpL_allocC (dst := some 16) kZ131 HH.out); rfl; (intro g16_ w_ hq_; (try simp only [List.set_cons_zero, List.set_cons_succ] at hq_); clear HH; have HH := hid hq_; clear hq_))
                | ((with_reducible apply wpL_allocC (dst := some 17) kZ82 HH.out); rfl; (intro g17_ w_ hq_; (try simp only [List.set_cons_zero, List.set_cons_succ] at hq_); clear HH; have HH := hid hq_; clear hq_))
                | ((with_reducible apply wpL_storeArr (t := 34) kS34 HH.out); rfl; rfl; (first | exact .here | exact .there .here | exact .there (.there .here) | exact .there (.there (.there .here)) | exact .there (.there (.there (.there .here))) | exact .there (.there (.there (.there (.there .here)))) | exact .there (.there (.there (.there (.there (.there .here))))) | exact .there (.there (.there (.there (.there (.there (.there .here))))))); (first | rfl | exact Arr.len _ | (simp; done)); rfl; (intro w_ hq_; (try simp only [List.set_cons_zero, List.set_cons_succ] at hq_); clear HH; have HH := hid hq_; clear hq_))
                | ((with_reducible apply wpL_storeC (t := 34)); rfl; rfl; (exact kS34); (exact HH.out); (first | exact .here | exact .there .here | exact .there (.there .here) | exact .there (.there (.there .here)) | exact .there (.there (.there (.there .here))) | exact .there (.there (.there (.there (.there .here)))) | exact .there (.there (.there (.there (.there (.there .here))))) | exact .there (.there (.there (.there (.there (.there (.there .here))))))); (first | rfl | exact Arr.len _ | (simp; done)); (first | rfl | (intro u_ hu_; simp only [List.mem_cons, List.not_mem_nil, or_false] at hu_; rcases hu_ with rfl | hu_; rfl) | exact byt_cell1 _ | exact cells_one _ | exact wrd_one _ | exact flat_cell1 _); (first | rfl | exact Arr.len _ | (simp; done)); rfl; (intro w_ hq_; (try simp only [List.set_cons_zero, List.set_cons_succ] at hq_); clear HH; have HH := hid hq_; clear hq_))
                | ((with_reducible apply wpL_storeC (t := 82)); rfl; rfl; (exact kS82); (exact HH.out); (first | exact .here | exact .there .here | exact .there (.there .here) | exact .there (.there (.there .here)) | exact .there (.there (.there (.there .here))) | exact .there (.there (.there (.there (.there .here)))) | exact .there (.there (.there (.there (.there (.there .here))))) | exact .there (.there (.there (.there (.there (.there (.there .here))))))); (first | rfl | exact Arr.len _ | (simp; done)); (first | rfl | (intro u_ hu_; simp only [List.mem_cons, List.not_mem_nil, or_false] at hu_; rcases hu_ with rfl | hu_; rfl) | exact byt_cell1 _ | exact cells_one _ | exact wrd_one _ | exact flat_cell1 _); (first | rfl | exact Arr.len _ | (simp; done)); rfl; (intro w_ hq_; (try simp only [List.set_cons_zero, List.set_cons_succ] at hq_); clear HH; have HH := hid hq_; clear hq_))
                | ((with_reducible apply wpL_move); rfl; rfl)
                | ((with_reducible apply wpL_assign); rfl; rfl)
                | ((with_reducible apply wpL_pick); rfl; rfl; rfl)
                | ((with_reducible apply wpL_not); rfl; rfl)
                | ((with_reducible apply wpL_cmp (b := true)); rfl; rfl; rfl; (first | rfl | assumption | (simp only [cmpB, decide_eq_true_eq, decide_eq_false_iff_not, beq_iff_eq, bne_iff_ne, ne_eq, beq_eq_false_iff_ne, bne_eq_false_iff_eq, gt_iff_lt, ge_iff_le]; omega) | (simp; omega)); rfl)
                | ((with_reducible apply wpL_cmp (b := false)); rfl; rfl; rfl; (first | rfl | assumption | (simp only [cmpB, decide_eq_true_eq, decide_eq_false_iff_not, beq_iff_eq, bne_iff_ne, ne_eq, beq_eq_false_iff_ne, bne_eq_false_iff_eq, gt_iff_lt, ge_iff_le]; omega) | (simp; omega)); rfl)
                | ((with_reducible apply wpL_cmp); rfl; rfl; rfl; rfl; rfl)
                | ((with_reducible apply wpL_arith); rfl; rfl; rfl; (exact IntWalk.i64_in _ (by (try simp only [arithI]); omega)); rfl)); (try simp only [arithI, Act.put, Act.eval, List.setIfInBounds_toArray, List.set_cons_succ, List.set_cons_zero, Array.getD_eq_getD_getElem?, List.getElem?_toArray, List.getElem?_cons_succ, List.getElem?_cons_zero, Option.getD_some])))
          refine bodyPost_ret (res2 rfl (resC kA82 HH.out (by rfl) (.there (.there .here)) (two_len _ _ _)) (by rfl)) rfl ?_
          exact ⟨rfl, HH.out.below⟩
      · have HNO := hid (show ¬ collOK i a pa b pb from fun h => h3 h.2.2.1)
        have HNE := hid trivial
        have hlen : ((pa.length : Int) != (pb.length : Int)) = true := by simp; omega
        clear hea heb hra hrb h3
        have hv : collV i a pa b pb = (0, zP, zP) := by unfold collV; rw [if_neg HNO.out]
        rw [hv]
        clear hv
        go_enter Try.func48, Try.ntmps48
        go_wp2_with (first
          | ((first
              | ((with_reducible apply wpL_skip); rfl; skip)
              | ((with_reducible apply wpL_allocC (dst := some 10) (zs := twoCs 0 zP zP) kZ82b HH.out); rfl; (intro g10_ w_ hq_; clear HH; have HH := hid hq_; clear hq_))
              | (go_at_call 54; (have hcall_ := hid (from_any _ (.slice ua pa.length ca) a i pa (HH.out.sl HPA.out) hna)); (with_reducible refine hcall_.out.mono ?_); clear hcall_; rw [HRA.out, HEA.out]; rintro e_ w2_ ⟨rfl, hb_⟩; (have hq_ := HH.out.grow hb_); clear HH; have HH := hid hq_; clear hq_ hb_)
              | (go_at_call 54; (have hcall_ := hid (from_any _ (.slice ub pb.length cb) b i pb (HH.out.sl HPB.out) hnb)); (with_reducible refine hcall_.out.mono ?_); clear hcall_; rw [HRB.out, HEB.out]; rintro e_ w2_ ⟨rfl, hb_⟩; (have hq_ := HH.out.grow hb_); clear HH; have HH := hid hq_; clear hq_ hb_)
              | ((with_reducible apply wpL_neqA (b := true) (p := ra) (q := rb) kR34); rfl; rfl; (exact HNE.out); rfl)
              | ((with_reducible apply wpList_build (parts := #[]) (v := .agg (twoCs 0 zP zP).toArray)); (exact BZ82); rfl)
              | ((with_reducible apply wpL_storeC (t := 82) (vs := twoCs 0 zP zP)); rfl; rfl; (exact kS82); (exact HH.out); (first | exact .there (.there .here) | exact .there (.there (.there .here))); (exact two_len _ _ _); (exact two_one _ _ _); (exact two_len _ _ _); rfl; (intro w_ hq_; clear HH; have HH := hid hq_; clear hq_))
              | ((with_reducible apply wpL_nilCheck); rfl; rfl)
              | ((with_reducible apply wpL_fieldAddr); (first | exact kF82_0); rfl; rfl)
              | ((with_reducible apply wpL_load1 (t := 3) kO3 HH.out); rfl; (first | exact .here | exact .there .here | exact .there (.there .here) | exact .there (.there (.there .here)) | exact .there (.there (.there (.there .here))) | exact .there (.there (.there (.there (.there .here)))) | exact .there (.there (.there (.there (.there (.there .here))))) | exact .there (.there (.there (.there (.there (.there (.there .here))))))); rfl; rfl)
              | ((with_reducible apply wpL_loadArr (t := 34) kA34 HH.out); rfl; (first | exact .here | exact .there .here | exact .there (.there .here) | exact .there (.there (.there .here)) | exact .there (.there (.there (.there .here))) | exact .there (.there (.there (.there (.there .here)))) | exact .there (.there (.there (.there (.there (.there .here))))) | exact .there (.there (.there (.there (.there (.there (.there .here))))))); rfl)
              | ((with_reducible apply wpL_loadC (t := 34) kA34 HH.out); rfl; (first | exact .here | exact .there .here | exact .there (.there .here) | exact .there (.there (.there .here)) | exact .there (.there (.there (.there .here))) | exact .there (.there (.there (.there (.there .here)))) | exact .there (.there (.there (.there (.there (.there .here))))) | exact .there (.there (.there (.there (.there (.there (.there .here))))))); (first | rfl | exact Arr.len _ | (simp; done)); rfl)
              | ((with_reducible apply wpL_loadC (t := 82) kA82 HH.out); rfl; (first | exact .here | exact .there .here | exact .there (.there .here) | exact .there (.there (.there .here)) | exact .there (.there (.there (.there .here))) | exact .there (.there (.there (.there (.there .here)))) | exact .there (.there (.there (.there (.there (.there .here))))) | exact .there (.there (.there (.there (.there (.there (.there .here))))))); (first | rfl | exact Arr.len _ | (simp; done)); rfl)
              | ((with_reducible apply wpL_len (t := 46) Try.underlying46); rfl; rfl)
              | ((with_reducible apply wpL_boxArr (dst := some 6)); rfl; (exact HH.out); rfl; (intro g6_ w_ hq_; (try simp only [List.set_cons_zero, List.set_cons_succ] at hq_); clear HH; have HH := hid hq_; clear hq_))
              | ((with_reducible apply wpL_boxArr (dst := some 8)); rfl; (exact HH.out); rfl; (intro g8_ w_ hq_; (try simp only [List.set_cons_zero, List.set_cons_succ] at hq_); clear HH; have HH := hid hq_; clear hq_))
              | ((with_reducible apply wpL_allocC (dst := some 10) kZ82 HH.out); rfl; (intro g10_ w_ hq_; (try simp only [List.set_cons_zero, List.set_cons_succ] at hq_); clear HH; have HH := hid hq_; clear hq_))
              | ((with_reducible apply wpL_allocC (dst := some 12) kZ34 HH.out); rfl; (intro g12_ w_ hq_; (try simp only [List.set_cons_zero, List.set_cons_succ] at hq_); clear HH; have HH := hid hq_; clear hq_))
              | ((with_reducible apply wpL_allocC (dst := some 14) kZ34 HH.out); rfl; (intro g14_ w_ hq_; (try simp only [List.set_cons_zero, List.set_cons_succ] at hq_); clear HH; have HH := hid hq_; clear hq_))
              | ((with_reducible apply wpL_allocC (dst := some 16) kZ131 HH.out); rfl; (intro g16_ w_ hq_; (try simp only [List.set_cons_zero, List.set_cons_succ] at hq_); clear HH; have HH := hid hq_; clear hq_))
              | ((with_reducible apply wpL_allocC (dst := some 17) kZ82 HH.out); rfl; (intro g17_ w_ hq_; (try simp only [List.set_cons_zero, List.set_cons_succ] at hq_); clear HH; have HH := hid hq_; clear hq_))
              | ((with_reducible apply wpL_storeArr (t := 34) kS34 HH.out); rfl; rfl; (first | exact .here | exact .there .here | exact .there (.there .here) | exact .there (.there (.there .here)) | exact .there (.there (.there (.there .here))) | exact .there (.there (.there (.there (.there .here)))) | exact .there (.there (.there (.there (.there (.there .here))))) | exact .there (.there (.there (.there (.there (.there (.there .here))))))); (first | rfl | exact Arr.len _ | (simp; done)); rfl; (intro w_ hq_; (try simp only [List.set_cons_zero, List.set_cons_succ] at hq_); clear HH; have HH := hid hq_; clear hq_))
              | ((with_reducible apply wpL_storeC (t := 34)); rfl; rfl; (exact kS34); (exact HH.out); (first | exact .here | exact .there .here | exact .there (.there .here) | exact .there (.there (.there .here)) | exact .there (.there (.there (.there .here))) | exact .there (.there (.there (.there (.there .here)))) | exact .there (.there (.there (.there (.there (.there .here))))) | exact .there (.there (.there (.there (.there (.there (.there .here))))))); (first | rfl | exact Arr.len _ | (simp; done)); (first | rfl | (intro u_ hu_; simp only [List.mem_cons, List.not_mem_nil, or_false] at hu_; rcases hu_ with rfl | hu_; rfl) | exact byt_cell1 _ | exact cells_one _ | exact wrd_one _ | exact flat_cell1 _); (first | rfl | exact Arr.len _ | (simp; done)); rfl; (intro w_ hq_; (try simp only [List.set_cons_zero, List.set_cons_succ] at hq_); clear HH; have HH := hid hq_; clear hq_))
              | ((with_reducible apply wpL_storeC (t := 82)); rfl; rfl; (exact kS82); (exact HH.out); (first | exact .here | exact .there .here | exact .there (.there .here) | exact .there (.there (.there .here)) | exact .there (.there (.there (.there .here))) | exact .there (.there (.there (.there (.there .here)))) | exact .there (.there (.there (.there (.there (.there .here))))) | exact .there (.there (.there (.there (.there (.there (.there .here))))))); (first | rfl | exact Arr.len _ | (simp; done)); (first | rfl | (intro u_ hu_; simp only [List.mem_cons, List.not_mem_nil, or_false] at hu_; rcases hu_ with rfl | hu_; rfl) | exact byt_cell1 _ | exact cells_one _ | exact wrd_one _ | exact flat_cell1 _); (first | rfl | exact Arr.len _ | (simp; done)); rfl; (intro w_ hq_; (try simp only [List.set_cons_zero, List.set_cons_succ] at hq_); clear HH; have HH := hid hq_; clear hq_))
              | ((with_reducible apply wpL_move); rfl; rfl)
              | ((with_reducible apply wpL_assign); rfl; rfl)
              | ((with_reducible apply wpL_pick); rfl; rfl; rfl)
              | ((with_reducible apply wpL_not); rfl; rfl)
              | ((with_reducible apply wpL_cmp (b := true)); rfl; rfl; rfl; (first | rfl | assumption | (simp only [cmpB, decide_eq_true_eq, decide_eq_false_iff_not, beq_iff_eq, bne_iff_ne, ne_eq, beq_eq_false_iff_ne, bne_eq_false_iff_eq, gt_iff_lt, ge_iff_le]; omega) | (simp; omega)); rfl)
              | ((with_reducible apply wpL_cmp (b := false)); rfl; rfl; rfl; (first | rfl | assumption | (simp only [cmpB, decide_eq_true_eq, decide_eq_false_iff_not, beq_iff_eq, bne_iff_ne, ne_eq, beq_eq_false_iff_ne, bne_eq_false_iff_eq, gt_iff_lt, ge_iff_le]; omega) | (simp; omega)); rfl)
              | ((with_reducible apply wpL_cmp); rfl; rfl; rfl; rfl; rfl)
              | ((with_reducible apply wpL_arith); rfl; rfl; rfl; (exact IntWalk.i64_in _ (by (try simp only [arithI]); omega)); rfl)); (try simp only [arithI, Act.put, Act.eval, List.setIfInBounds_toArray, List.set_cons_succ, List.set_cons_zero, Array.getD_eq_getD_getElem?, List.getElem?_toArray, List.getElem?_cons_succ, List.getElem?_cons_zero, Option.getD_some])))
        refine bodyPost_ret (res2 rfl (resC kA82 HH.out (by rfl) (.there (.there .here)) (two_len _ _ _)) (by rfl)) rfl ?_
        exact ⟨rfl, HH.out.below⟩
    · have HNO := hid (show ¬ collOK i a pa b pb from fun h => h2 (by rw [← heb]; exact h.2.1))
      have HNE := hid trivial
      have h2b : ((eb : Int) != 0) = true := by simpa using h2
      clear hea heb hra hrb h2
      have hv : collV i a pa b pb = (0, zP, zP) := by unfold collV; rw [if_neg HNO.out]
      rw [hv]
      clear hv
      go_enter Try.func48, Try.ntmps48
      go_wp2_with (first
        | ((first
            | ((with_reducible apply wpL_skip); rfl; skip)
            | ((with_reducible apply wpL_allocC (dst := some 10) (zs := twoCs 0 zP zP) kZ82b HH.out); rfl; (intro g10_ w_ hq_; clear HH; have HH := hid hq_; clear hq_))
            | (go_at_call 54; (have hcall_ := hid (from_any _ (.slice ua pa.length ca) a i pa (HH.out.sl HPA.out) hna)); (with_reducible refine hcall_.out.mono ?_); clear hcall_; rw [HRA.out, HEA.out]; rintro e_ w2_ ⟨rfl, hb_⟩; (have hq_ := HH.out.grow hb_); clear HH; have HH := hid hq_; clear hq_ hb_)
            | (go_at_call 54; (have hcall_ := hid (from_any _ (.slice ub pb.length cb) b i pb (HH.out.sl HPB.out) hnb)); (with_reducible refine hcall_.out.mono ?_); clear hcall_; rw [HRB.out, HEB.out]; rintro e_ w2_ ⟨rfl, hb_⟩; (have hq_ := HH.out.grow hb_); clear HH; have HH := hid hq_; clear hq_ hb_)
            | ((with_reducible apply wpL_neqA (b := true) (p := ra) (q := rb) kR34); rfl; rfl; (exact HNE.out); rfl)
            | ((with_reducible apply wpList_build (parts := #[]) (v := .agg (twoCs 0 zP zP).toArray)); (exact BZ82); rfl)
            | ((with_reducible apply wpL_storeC (t := 82) (vs := twoCs 0 zP zP)); rfl; rfl; (exact kS82); (exact HH.out); (first | exact .there (.there .here) | exact .there (.there (.there .here))); (exact two_len _ _ _); (exact two_one _ _ _); (exact two_len _ _ _); rfl; (intro w_ hq_; clear HH; have HH := hid hq_; clear hq_))
            | ((with_reducible apply wpL_nilCheck); rfl; rfl)
            | ((with_reducible apply wpL_fieldAddr); (first | exact kF82_0); rfl; rfl)
            | ((with_reducible apply wpL_load1 (t := 3) kO3 HH.out); rfl; (first | exact .here | exact .there .here | exact .there (.there .here) | exact .there (.there (.there .here)) | exact .there (.there (.there (.there .here))) | exact .there (.there (.there (.there (.there .here)))) | exact .there (.there (.there (.there (.there (.there .here))))) | exact .there (.there (.there (.there (.there (.there (.there .here))))))); rfl; rfl)
            | ((with_reducible apply wpL_loadArr (t := 34) kA34 HH.out); rfl; (first | exact .here | exact .there .here | exact .there (.there .here) | exact .there (.there (.there .here)) | exact .there (.there (.there (.there .here))) | exact .there (.there (.there (.there (.there .here)))) | exact .there (.there (.there (.there (.there (.there .here))))) | exact .there (.there (.there (.there (.there (.there (.there .here))))))); rfl)
            | ((with_reducible apply wpL_loadC (t := 34) kA34 HH.out); rfl; (first | exact .here | exact .there .here | exact .there (.there .here) | exact .there (.there (.there .here)) | exact .there (.there (.there (.there .here))) | exact .there (.there (.there (.there (.there .here)))) | exact .there (.there (.there (.there (.there (.there .here))))) | exact .there (.there (.there (.there (.there (.there (.there .here))))))); (first | rfl | exact Arr.len _ | (simp; done)); rfl)
            | ((with_reducible apply wpL_loadC (t := 82) kA82 HH.out); rfl; (first | exact .here | exact .there .here | exact .there (.there .here) | exact .there (.there (.there .here)) | exact .there (.there (.there (.there .here))) | exact .there (.there (.there (.there (.there .here)))) | exact .there (.there (.there (.there (.there (.there .here))))) | exact .there (.there (.there (.there (.there (.there (.there .here))))))); (first | rfl | exact Arr.len _ | (simp; done)); rfl)
            | ((with_reducible apply wpL_len (t := 46) Try.underlying46); rfl; rfl)
            | ((with_reducible apply wpL_boxArr (dst := some 6)); rfl; (exact HH.out); rfl; (intro g6_ w_ hq_; (try simp only [List.set_cons_zero, List.set_cons_succ] at hq_); clear HH; have HH := hid hq_; clear hq_))
            | ((with_reducible apply wpL_boxArr (dst := some 8)); rfl; (exact HH.out); rfl; (intro g8_ w_ hq_; (try simp only [List.set_cons_zero, List.set_cons_succ] at hq_); clear HH; have HH := hid hq_; clear hq_))
            | ((with_reducible apply wpL_allocC (dst := some 10) kZ82 HH.out); rfl; (intro g10_ w_ hq_; (try simp only [List.set_cons_zero, List.set_cons_succ] at hq_); clear HH; have HH := hid hq_; clear hq_))
            | ((with_reducible apply wpL_allocC (dst := some 12) kZ34 HH.out); rfl; (intro g12_ w_ hq_; (try simp only [List.set_cons_zero, List.set_cons_succ] at hq_); clear HH; have HH := hid hq_; clear hq_))
            | ((with_reducible apply wpL_allocC (dst := some 14) kZ34 HH.out); rfl; (intro g14_ w_ hq_; (try simp only [List.set_cons_zero, List.set_cons_succ] at hq_); clear HH; have HH := hid hq_; clear hq_))
            | ((with_reducible apply wpL_allocC (dst := some 16) kZ131 HH.out); rfl; (intro g16_ w_ hq_; (try simp only [List.set_cons_zero, List.set_cons_succ] at hq_); clear HH; have HH := hid hq_; clear hq_))
            | ((with_reducible apply wpL_allocC (dst := some 17) kZ82 HH.out); rfl; (intro g17_ w_ hq_; (try simp only [List.set_cons_zero, List.set_cons_succ] at hq_); clear HH; have HH := hid hq_; clear hq_))
            | ((with_reducible apply wpL_storeArr (t := 34) kS34 HH.out); rfl; rfl; (first | exact .here | exact .there .here | exact .there (.there .here) | exact .there (.there (.there .here)) | exact .there (.there (.there (.there .here))) | exact .there (.there (.there (.there (.there .here)))) | exact .there (.there (.there (.there (.there (.there .here))))) | exact .there (.there (.there (.there (.there (.there (.there .here))))))); (first | rfl | exact Arr.len _ | (simp; done)); rfl; (intro w_ hq_; (try simp only [List.set_cons_zero, List.set_cons_succ] at hq_); clear HH; have HH := hid hq_; clear hq_))
            | ((with_reducible apply wpL_storeC (t := 34)); rfl; rfl; (exact kS34); (exact HH.out); (first | exact .here | exact .there .here | exact .there (.there .here) | exact .there (.there (.there .here)) | exact .there (.there (.there (.there .here))) | exact .there (.there (.there (.there (.there .here)))) | exact .there (.there (.there (.there (.there (.there .here))))) | exact .there (.there (.there (.there (.there (.there (.there .here))))))); (first | rfl | exact Arr.len _ | (simp; done)); (first | rfl | (intro u_ hu_; simp only [List.mem_cons, List.not_mem_nil, or_false] at hu_; rcases hu_ with rfl | hu_; rfl) | exact byt_cell1 _ | exact cells_one _ | exact wrd_one _ | exact flat_cell1 _); (first | rfl | exact Arr.len _ | (simp; done)); rfl; (intro w_ hq_; (try simp only [List.set_cons_zero, List.set_cons_succ] at hq_); clear HH; have HH := hid hq_; clear hq_))
            | ((with_reducible apply wpL_storeC (t := 82)); rfl; rfl; (exact kS82); (exact HH.out); (first | exact .here | exact .there .here | exact .there (.there .here) | exact .there (.there (.there .here)) | exact .there (.there (.there (.there .here))) | exact .there (.there (.there (.there (.there .here)))) | exact .there (.there (.there (.there (.there (.there .here))))) | exact .there (.there (.there (.there (.there (.there (.there .here))))))); (first | rfl | exact Arr.len _ | (simp; done)); (first | rfl | (intro u_ hu_; simp only [List.mem_cons, List.not_mem_nil, or_false] at hu_; rcases hu_ with rfl | hu_; rfl) | exact byt_cell1 _ | exact cells_one _ | exact wrd_one _ | exact flat_cell1 _); (first | rfl | exact Arr.len _ | (simp; done)); rfl; (intro w_ hq_; (try simp only [List.set_cons_zero, List.set_cons_succ] at hq_); clear HH; have HH := hid hq_; clear hq_))
            | ((with_reducible apply wpL_move); rfl; rfl)
            | ((with_reducible apply wpL_assign); rfl; rfl)
            | ((with_reducible apply wpL_pick); rfl; rfl; rfl)
            | ((with_reducible apply wpL_not); rfl; rfl)
            | ((with_reducible apply wpL_cmp (b := true)); rfl; rfl; rfl; (first | rfl | assumption | (simp only [cmpB, decide_eq_true_eq, decide_eq_false_iff_not, beq_iff_eq, bne_iff_ne, ne_eq, beq_eq_false_iff_ne, bne_eq_false_iff_eq, gt_iff_lt, ge_iff_le]; omega) | (simp; omega)); rfl)
            | ((with_reducible apply wpL_cmp (b := false)); rfl; rfl; rfl; (first | rfl | assumption | (simp only [cmpB, decide_eq_true_eq, decide_eq_false_iff_not, beq_iff_eq, bne_iff_ne, ne_eq, beq_eq_false_iff_ne, bne_eq_false_iff_eq, gt_iff_lt, ge_iff_le]; omega) | (simp; omega)); rfl)
            | ((with_reducible apply wpL_cmp); rfl; rfl; rfl; rfl; rfl)
            | ((with_reducible apply wpL_arith); rfl; rfl; rfl; (exact IntWalk.i64_in _ (by (try simp only [arithI]); omega)); rfl)); (try simp only [arithI, Act.put, Act.eval, List.setIfInBounds_toArray, List.set_cons_succ, List.set_cons_zero, Array.getD_eq_getD_getElem?, List.getElem?_toArray, List.getElem?_cons_succ, List.getElem?_cons_zero, Option.getD_some])))
      refine bodyPost_ret (res2 rfl (resC kA82 HH.out (by rfl) (.there (.there .here)) (two_len _ _ _)) (by rfl)) rfl ?_
      exact ⟨rfl, HH.out.below⟩
  · have HNO := hid (show ¬ collOK i a pa b pb from fun h => h1 (by rw [← hea]; exact h.1))
    have HNE := hid trivial
    have h1b : ((ea : Int) != 0) = true := by simpa using h1
    clear hea heb hra hrb h1
    have hv : collV i a pa b pb = (0, zP, zP) := by unfold collV; rw [if_neg HNO.out]
    rw [hv]
    clear hv
    go_enter Try.func48, Try.ntmps48
    go_wp2_with (first
      | ((first
          | ((with_reducible apply wpL_skip); rfl; skip)
          | ((with_reducible apply wpL_allocC (dst := some 10) (zs := twoCs 0 zP zP) kZ82b HH.out); rfl; (intro g10_ w_ hq_; clear HH; have HH := hid hq_; clear hq_))
          | (go_at_call 54; (have hcall_ := hid (from_any _ (.slice ua pa.length ca) a i pa (HH.out.sl HPA.out) hna)); (with_reducible refine hcall_.out.mono ?_); clear hcall_; rw [HRA.out, HEA.out]; rintro e_ w2_ ⟨rfl, hb_⟩; (have hq_ := HH.out.grow hb_); clear HH; have HH := hid hq_; clear hq_ hb_)
          | (go_at_call 54; (have hcall_ := hid (from_any _ (.slice ub pb.length cb) b i pb (HH.out.sl HPB.out) hnb)); (with_reducible refine hcall_.out.mono ?_); clear hcall_; rw [HRB.out, HEB.out]; rintro e_ w2_ ⟨rfl, hb_⟩; (have hq_ := HH.out.grow hb_); clear HH; have HH := hid hq_; clear hq_ hb_)
          | ((with_reducible apply wpL_neqA (b := true) (p := ra) (q := rb) kR34); rfl; rfl; (exact HNE.out); rfl)
          | ((with_reducible apply wpList_build (parts := #[]) (v := .agg (twoCs 0 zP zP).toArray)); (exact BZ82); rfl)
          | ((with_reducible apply wpL_storeC (t := 82) (vs := twoCs 0 zP zP)); rfl; rfl; (exact kS82); (exact HH.out); (first | exact .there (.there .here) | exact .there (.there (.there .here))); (exact two_len _ _ _); (exact two_one _ _ _); (exact two_len _ _ _); rfl; (intro w_ hq_; clear HH; have HH := hid hq_; clear hq_))
          | ((with_reducible apply wpL_nilCheck); rfl; rfl)
          | ((with_reducible apply wpL_fieldAddr); (first | exact kF82_0); rfl; rfl)
          | ((with_reducible apply wpL_load1 (t := 3) kO3 HH.out); rfl; (first | exact .here | exact .there .here | exact .there (.there .here) | exact .there (.there (.there .here)) | exact .there (.there (.there (.there .here))) | exact .there (.there (.there (.there (.there .here)))) | exact .there (.there (.there (.there (.there (.there .here))))) | exact .there (.there (.there (.there (.there (.there (.there .here))))))); rfl; rfl)
          | ((with_reducible apply wpL_loadArr (t := 34) kA34 HH.out); rfl; (first | exact .here | exact .there .here | exact .there (.there .here) | exact .there (.there (.there .here)) | exact .there (.there (.there (.there .here))) | exact .there (.there (.there (.there (.there .here)))) | exact .there (.there (.there (.there (.there (.there .here))))) | exact .there (.there (.there (.there (.there (.there (.there .here))))))); rfl)
          | ((with_reducible apply wpL_loadC (t := 34) kA34 HH.out); rfl; (first | exact .here | exact .there .here | exact .there (.there .here) | exact .there (.there (.there .here)) | exact .there (.there (.there (.there .here))) | exact .there (.there (.there (.there (.there .here)))) | exact .there (.there (.there (.there (.there (.there .here))))) | exact .there (.there (.there (.there (.there (.there (.there .here))))))); (first | rfl | exact Arr.len _ | (simp; done)); rfl)
          | ((with_reducible apply wpL_loadC (t := 82) kA82 HH.out); rfl; (first | exact .here | exact .there .here | exact .there (.there .here) | exact .there (.there (.there .here)) | exact .there (.there (.there (.there .here))) | exact .there (.there (.there (.there (.there .here)))) | exact .there (.there (.there (.there (.there (.there .here))))) | exact .there (.there (.there (.there (.there (.there (.there .here))))))); (first | rfl | exact Arr.len _ | (simp; done)); rfl)
          | ((with_reducible apply wpL_len (t := 46) Try.underlying46); rfl; rfl)
          | ((with_reducible apply wpL_boxArr (dst := some 6)); rfl; (exact HH.out); rfl; (intro g6_ w_ hq_; (try simp only [List.set_cons_zero, List.set_cons_succ] at hq_); clear HH; have HH := hid hq_; clear hq_))
          | ((with_reducible apply wpL_boxArr (dst := some 8)); rfl; (exact HH.out); rfl; (intro g8_ w_ hq_; (try simp only [List.set_cons_zero, List.set_cons_succ] at hq_); clear HH; have HH := hid hq_; clear hq_))
          | ((with_reducible apply wpL_allocC (dst := some 10) kZ82 HH.out); rfl; (intro g10_ w_ hq_; (try simp only [List.set_cons_zero, List.set_cons_succ] at hq_); clear HH; have HH := hid hq_; clear hq_))
          | ((with_reducible apply wpL_allocC (dst := some 12) kZ34 HH.out); rfl; (intro g12_ w_ hq_; (try simp only [List.set_cons_zero, List.set_cons_succ] at hq_); clear HH; have HH := hid hq_; clear hq_))
          | ((with_reducible apply wpL_allocC (dst := some 14) kZ34 HH.out); rfl; (intro g14_ w_ hq_; (try simp only [List.set_cons_zero, List.set_cons_succ] at hq_); clear HH; have HH := hid hq_; clear hq_))
          | ((with_reducible apply wpL_allocC (dst := some 16) kZ131 HH.out); rfl; (intro g16_ w_ hq_; (try simp only [List.set_cons_zero, List.set_cons_succ] at hq_); clear HH; have HH := hid hq_; clear hq_))
          | ((with_reducible apply wpL_allocC (dst := some 17) kZ82 HH.out); rfl; (intro g17_ w_ hq_; (try simp only [List.set_cons_zero, List.set_cons_succ] at hq_); clear HH; have HH := hid hq_; clear hq_))
          | ((with_reducible apply wpL_storeArr (t := 34) kS34 HH.out); rfl; rfl; (first | exact .here | exact .there .here | exact .there (.there .here) | exact .there (.there (.there .here)) | exact .there (.there (.there (.there .here))) | exact .there (.there (.there (.there (.there .here)))) | exact .there (.there (.there (.there (.there (.there .here))))) | exact .there (.there (.there (.there (.there (.there (.there .here))))))); (first | rfl | exact Arr.len _ | (simp; done)); rfl; (intro w_ hq_; (try simp only [List.set_cons_zero, List.set_cons_succ] at hq_); clear HH; have HH := hid hq_; clear hq_))
          | ((with_reducible apply wpL_storeC (t := 34)); rfl; rfl; (exact kS34); (exact HH.out); (first | exact .here | exact .there .here | exact .there (.there .here) | exact .there (.there (.there .here)) | exact .there (.there (.there (.there .here))) | exact .there (.there (.there (.there (.there .here)))) | exact .there (.there (.there (.there (.there (.there .here))))) | exact .there (.there (.there (.there (.there (.there (.there .here))))))); (first | rfl | exact Arr.len _ | (simp; done)); (first | rfl | (intro u_ hu_; simp only [List.mem_cons, List.not_mem_nil, or_false] at hu_; rcases hu_ with rfl | hu_; rfl) | exact byt_cell1 _ | exact cells_one _ | exact wrd_one _ | exact flat_cell1 _); (first | rfl | exact Arr.len _ | (simp; done)); rfl; (intro w_ hq_; (try simp only [List.set_cons_zero, List.set_cons_succ] at hq_); clear HH; have HH := hid hq_; clear hq_))
          | ((with_reducible apply wpL_storeC (t := 82)); rfl; rfl; (exact kS82); (exact HH.out); (first | exact .here | exact .there .here | exact .there (.there .here) | exact .there (.there (.there .here)) | exact .there (.there (.there (.there .here))) | exact .there (.there (.there (.there (.there .here)))) | exact .there (.there (.there (.there (.there (.there .here))))) | exact .there (.there (.there (.there (.there (.there (.there .here))))))); (first | rfl | exact Arr.len _ | (simp; done)); (first | rfl | (intro u_ hu_; simp only [List.mem_cons, List.not_mem_nil, or_false] at hu_; rcases hu_ with rfl | hu_; rfl) | exact byt_cell1 _ | exact cells_one _ | exact wrd_one _ | exact flat_cell1 _); (first | rfl | exact Arr.len _ | (simp; done)); rfl; (intro w_ hq_; (try simp only [List.set_cons_zero, List.set_cons_succ] at hq_); clear HH; have HH := hid hq_; clear hq_))
          | ((with_reducible apply wpL_move); rfl; rfl)
          | ((with_reducible apply wpL_assign); rfl; rfl)
          | ((with_reducible apply wpL_pick); rfl; rfl; rfl)
          | ((with_reducible apply wpL_not); rfl; rfl)
          | ((with_reducible apply wpL_cmp (b := true)); rfl; rfl; rfl; (first | rfl | assumption | (simp only [cmpB, decide_eq_true_eq, decide_eq_false_iff_not, beq_iff_eq, bne_iff_ne, ne_eq, beq_eq_false_iff_ne, bne_eq_false_iff_eq, gt_iff_lt, ge_iff_le]; omega) | (simp; omega)); rfl)
          | ((with_reducible apply wpL_cmp (b := false)); rfl; rfl; rfl; (first | rfl | assumption | (simp only [cmpB, decide_eq_true_eq, decide_eq_false_iff_not, beq_iff_eq, bne_iff_ne, ne_eq, beq_eq_false_iff_ne, bne_eq_false_iff_eq, gt_iff_lt, ge_iff_le]; omega) | (simp; omega)); rfl)
          | ((with_reducible apply wpL_cmp); rfl; rfl; rfl; rfl; rfl)
          | ((with_reducible apply wpL_arith); rfl; rfl; rfl; (exact IntWalk.i64_in _ (by (try simp only [arithI]); omega)); rfl)); (try simp only [arithI, Act.put, Act.eval, List.setIfInBounds_toArray, List.set_cons_succ, List.set_cons_zero, Array.getD_eq_getD_getElem?, List.getElem?_toArray, List.getElem?_cons_succ, List.getElem?_cons_zero, Option.getD_some])))
    refine bodyPost_ret (res2 rfl (resC kA82 HH.out (by rfl) (.there (.there .here)) (two_len _ _ _)) (by rfl)) rfl ?_
    exact ⟨rfl, HH.out.below⟩
end Go.Proofs.Ytgkfopodhikckaa

