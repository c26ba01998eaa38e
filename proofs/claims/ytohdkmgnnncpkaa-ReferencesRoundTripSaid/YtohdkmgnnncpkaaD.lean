/- A region that draws its order and whose operations make memory: what each operation leaves holds whatever order is drawn. Over any program; no condition. -/
import Derived.Test.YtohdkmgnnncpkaaB
namespace Go.Proofs.Ytohdkmgnnncpkaa
open Go.RowKit
section
variable {P : Program} {ops : Array Oper}
/-- What an operation yields, and the world that it leaves. -/
def OpOK (P : Program) (o : Oper) (a : Act) (w : World) (R : Value → World → Prop) : Prop :=
  match (execOp a.eval o).run P w with
  | .ok (.value v) w' => R v w'
  | .ok .skip w' => R undef w'
  | .ok (.enter f args) w' => Calls P f args w' fun e w'' => ∃ v, e = .returned v ∧ R v w''
  | _ => False
theorem OpOK.wp {o : Oper} {a : Act} {w : World} {R : Value → World → Prop} (h : OpOK P o a w R) {K : Act → World → Prop} {Q : Exit → Act → World → Prop} (hK : ∀ v w', R v w' → K (a.put o.dst v) w') : o.wp P a w K Q := by
  unfold OpOK at h
  unfold Oper.wp
  generalize (execOp a.eval o).run P w = r at *
  cases r with
  | halt x w' => exact h.elim
  | ok n w' =>
    cases n <;> simp only [Oper.upon] <;> first | exact h.elim | exact hK _ _ h | skip
    exact Calls.mono h fun e w'' ⟨v, he, hR⟩ => by subst he; exact hK _ _ hR
/-- What operation i says of the value in its slot. -/
def SatD (ops : Array Oper) (A : Nat → Value → World → Prop) (a : Act) (w : World) (i : Nat) : Prop :=
  ∀ o, ops[i]? = some o → A i (match o.dst with | some d => a.tmps.getD d undef | none => undef) w
/-- The slots that no operation of the region writes are as they were. -/
def FrD (ops : Array Oper) (a0 a : Act) : Prop :=
  a.defers = a0.defers ∧ a.tmps.size = a0.tmps.size ∧ ∀ (t : Nat), (∀ (i : Nat) (o : Oper), ops[i]? = some o → o.dst ≠ some t) → a.tmps.getD t undef = a0.tmps.getD t undef
/-- What an operation without a slot yields is dropped. -/
def slotD (o : Oper) (v : Value) : Value := match o.dst with | some _ => v | none => undef
structure InvD (ops : Array Oper) (a0 : Act) (I : World → Prop) (A : Nat → Value → World → Prop) (listed : Array Bool) (a : Act) (w : World) : Prop where
  inv : I w
  def_ : a.defers = a0.defers
  size : a.tmps.size = a0.tmps.size
  fr : ∀ t, (∀ i o, ops[i]? = some o → listed.getD i false = true → o.dst ≠ some t) → a.tmps.getD t undef = a0.tmps.getD t undef
  sat : ∀ i, listed.getD i false = true → SatD ops A a w i
theorem InvD.frD {a0 a : Act} {I : World → Prop} {A : Nat → Value → World → Prop} {listed : Array Bool} {w : World} (h : InvD ops a0 I A listed a w) : FrD ops a0 a :=
  ⟨h.def_, h.size, fun t ht => h.fr t fun i o ho _ => ht i o ho⟩
theorem getD_put_self {a : Act} {d : Nat} {v : Value} (h : d < a.tmps.size) : (a.put (some d) v).tmps.getD d undef = v := by
  simp [Act.put, h]
theorem getD_put_ne {a : Act} {d t : Nat} {v : Value} (h : d ≠ t) : (a.put (some d) v).tmps.getD t undef = a.tmps.getD t undef := by
  simp [Act.put, Array.getElem?_setIfInBounds, h]
theorem size_put (a : Act) (d : Option Tmp) (v : Value) : (a.put d v).tmps.size = a.tmps.size := by
  cases d <;> simp [Act.put]
theorem defers_put (a : Act) (d : Option Tmp) (v : Value) : (a.put d v).defers = a.defers := by
  cases d <;> rfl
/-- The edges lead back, no slot is written twice, each slot is one of the frame's. -/
def shapeD (n : Nat) (ops : Array Oper) : Bool :=
  ((List.range ops.size).all fun i => ((ops[i]?).map fun (o : Oper) => (o.after.toList.all fun e => !Region.binds .any e || decide (e.on < i)) && (match o.dst with | some d => decide (d < n) | none => true)).getD true) &&
  ((List.range ops.size).all fun i => (List.range ops.size).all fun j => decide (i = j) || (match (ops[i]?).bind Oper.dst, (ops[j]?).bind Oper.dst with | some d, some d' => decide (d ≠ d') | _, _ => true))
theorem shapeD_back {n : Nat} (h : shapeD n ops = true) {i : Nat} {o : Oper} (ho : ops[i]? = some o) : ∀ e ∈ o.after, Region.binds .any e = true → e.on < i := by
  have hi : i < ops.size := (Array.getElem?_eq_some_iff.1 ho).1
  simp only [shapeD, Bool.and_eq_true, List.all_eq_true, List.mem_range] at h
  have h1 := h.1 i hi
  rw [ho] at h1
  simp only [Option.map_some, Option.getD_some, Bool.and_eq_true, List.all_eq_true, decide_eq_true_eq, Bool.or_eq_true, Bool.not_eq_true'] at h1
  intro e he hb
  rcases h1.1 e (Array.mem_toList_iff.2 he) with h2 | h2
  · rw [hb] at h2; cases h2
  · exact h2
theorem shapeD_lt {n : Nat} (h : shapeD n ops = true) {i d : Nat} {o : Oper} (ho : ops[i]? = some o) (hd : o.dst = some d) : d < n := by
  have hi : i < ops.size := (Array.getElem?_eq_some_iff.1 ho).1
  simp only [shapeD, Bool.and_eq_true, List.all_eq_true, List.mem_range] at h
  have h1 := h.1 i hi
  rw [ho] at h1
  simp only [Option.map_some, Option.getD_some, Bool.and_eq_true, hd, decide_eq_true_eq] at h1
  exact h1.2
theorem shapeD_ne {n : Nat} (h : shapeD n ops = true) {i j d : Nat} {o o' : Oper} (ho : ops[i]? = some o) (ho' : ops[j]? = some o') (hij : i ≠ j) (hd : o.dst = some d) : o'.dst ≠ some d := by
  have hi : i < ops.size := (Array.getElem?_eq_some_iff.1 ho).1
  have hj : j < ops.size := (Array.getElem?_eq_some_iff.1 ho').1
  simp only [shapeD, Bool.and_eq_true, List.all_eq_true, List.mem_range] at h
  have h1 := h.2 i hi j hj
  intro e
  simp [ho, ho', hd, e, hij] at h1
theorem getD_set_self {l : Array Bool} {i : Nat} (h : i < l.size) (b : Bool) : (l.setIfInBounds i true).getD i b = true := by simp [h]
theorem getD_set_ne' {l : Array Bool} {i j : Nat} (h : i ≠ j) (b : Bool) : (l.setIfInBounds i true).getD j b = l.getD j b := by
  simp [Array.getElem?_setIfInBounds, h]
theorem wpAny_D {Q : Exit → Act → World → Prop} {a0 : Act} {I : World → Prop} {A : Nat → Value → World → Prop} {G : Nat → World → World → Prop} (hsh : shapeD a0.tmps.size ops = true)
    (hst : ∀ i j, i ≠ j → ∀ v w w', G i w w' → A j v w → A j v w')
    (hstep : ∀ i o, ops[i]? = some o → ∀ a w, I w → FrD ops a0 a → (∀ e ∈ o.after, Region.binds .any e = true → SatD ops A a w e.on) →
      if Region.wanted o (yielded ops a.tmps) then OpOK P o a w (fun v w' => I w' ∧ G i w w' ∧ A i (slotD o v) w') else A i undef w)
    (hend : ∀ a w, I w → FrD ops a0 a → (∀ i, i < ops.size → SatD ops A a w i) → Q .normal a w) :
    ∀ (fuel : Nat) (listed : Array Bool) (a : Act) (w : World), listed.size = ops.size → listed.toList.count false ≤ fuel → InvD ops a0 I A listed a w → wpAny P .any ops Q fuel listed a w := by
  have hall : ∀ (listed : Array Bool), listed.size = ops.size → Region.ready .any ops listed = [] → ∀ i, i < ops.size → listed.getD i false = true := by
    intro listed hsz hr i
    induction i using Nat.strongRecOn with
    | ind i ih =>
      intro hi
      by_cases h : listed.getD i false = true
      · exact h
      · exfalso
        have hm : i ∈ Region.ready .any ops listed := by
          refine mem_ready.2 ⟨?_, ops[i], by simp [hi], fun e he hb => ?_⟩
          · simp [hsz, hi] at h ⊢; exact h
          · have := shapeD_back hsh (i := i) (o := ops[i]) (by simp [hi]) e he hb
            exact ih e.on this (by omega)
        rw [hr] at hm
        cases hm
  intro fuel
  induction fuel with
  | zero =>
    intro listed a w hsz hc hinv
    have hnone : ∀ i, i < ops.size → listed.getD i false = true := by
      intro i hi
      have hi' : i < listed.size := by omega
      have hb : listed[i] ≠ false := by
        intro e
        have : false ∈ listed.toList := by rw [← e]; simp
        have := List.count_pos_iff.2 this
        omega
      simp [hi', hb]
    refine ⟨?_, hend a w hinv.inv hinv.frD fun i hi => hinv.sat i (hnone i hi)⟩
    rw [List.eq_nil_iff_forall_not_mem]
    intro j hj
    obtain ⟨h1, o, ho, _⟩ := mem_ready.1 hj
    have hlt : j < ops.size := (Array.getElem?_eq_some_iff.1 ho).1
    have h2 := hnone j hlt
    have hj' : j < listed.size := by omega
    simp [hj'] at h1 h2
    rw [h1] at h2
    cases h2
  | succ fuel ih =>
    intro listed a w hsz hc hinv
    refine ⟨fun hr => hend a w hinv.inv hinv.frD fun i hi => hinv.sat i (hall listed hsz hr i hi), fun i hi => ?_⟩
    obtain ⟨h1, o, ho, hdeps⟩ := mem_ready.1 hi
    have hlt : i < ops.size := (Array.getElem?_eq_some_iff.1 ho).1
    have hlt' : i < listed.size := by omega
    have hfalse : listed[i] = false := by simpa [hlt'] using h1
    have hs := hstep i o ho a w hinv.inv hinv.frD fun e he hb => hinv.sat e.on (hdeps e he hb)
    have hcount : (listed.setIfInBounds i true).toList.count false ≤ fuel := by
      rw [Array.toList_setIfInBounds, List.count_set (by simpa using hlt')]
      have : false ∈ listed.toList := by rw [← hfalse]; simp
      have := List.count_pos_iff.2 this
      have e1 : listed.toList[i]'(by simpa using hlt') = false := by simpa using hfalse
      rw [e1]
      have e2 : ((true : Bool) == false) = false := rfl
      simp only [beq_self_eq_true, if_true, e2, Bool.false_eq_true, if_false]
      omega
    have next : ∀ v w', I w' → (w' = w ∨ G i w w') → A i (slotD o v) w' → InvD ops a0 I A (listed.setIfInBounds i true) (a.put o.dst v) w' := by
      intro v w' hI hG hA
      refine ⟨hI, by rw [defers_put]; exact hinv.def_, by rw [size_put]; exact hinv.size, ?_, ?_⟩
      · intro t ht
        have hne : o.dst ≠ some t := ht i o ho (getD_set_self hlt' false)
        have e1 : (a.put o.dst v).tmps.getD t undef = a.tmps.getD t undef := by
          cases hd : o.dst with
          | none => rfl
          | some d => exact getD_put_ne (by intro e; exact hne (by rw [hd, e]))
        rw [e1]
        exact hinv.fr t fun j oj hj hlj => by
          by_cases hij : i = j
          · subst hij; rw [ho] at hj; cases hj; exact hne
          · exact ht j oj hj (by rw [getD_set_ne' hij]; exact hlj)
      · intro j hj
        by_cases hij : i = j
        · subst hij
          intro oj hoj
          rw [ho] at hoj; cases hoj
          unfold slotD at hA
          cases hd : o.dst with
          | none => rw [hd] at hA; exact hA
          | some d =>
            have hdl : d < a.tmps.size := by rw [hinv.size]; exact shapeD_lt hsh ho hd
            simp only [getD_put_self hdl]
            rw [hd] at hA
            exact hA
        · rw [getD_set_ne' hij] at hj
          intro oj hoj
          have h3 := hinv.sat j hj oj hoj
          have hval : (match oj.dst with | some d => (a.put o.dst v).tmps.getD d undef | none => undef) = (match oj.dst with | some d => a.tmps.getD d undef | none => undef) := by
            cases hd : o.dst with
            | none => rfl
            | some d =>
              cases hdj : oj.dst with
              | none => rfl
              | some d' =>
                have := shapeD_ne hsh ho hoj hij hd
                rw [hdj] at this
                exact getD_put_ne (by intro e; exact this (by rw [e]))
          rw [hval]
          rcases hG with rfl | hG
          · exact h3
          · exact hst i j hij _ _ _ hG h3
    unfold wpOp
    simp only [ho]
    by_cases hw : Region.wanted o (yielded ops a.tmps) = true
    · rw [if_pos hw] at hs ⊢
      exact .inl (hs.wp fun v w' ⟨hI, hG, hA⟩ => ih _ _ _ (by simpa using hsz) hcount (next v w' hI (.inr hG) hA))
    · rw [if_neg hw] at hs ⊢
      exact ih _ _ _ (by simpa using hsz) hcount (next undef w hinv.inv (.inl rfl) (by unfold slotD; split <;> exact hs))
/-- The frame behind the region: the operations' slots hold these values. -/
def putsD (a : Act) : List Oper → List Value → Act
  | o :: os, v :: vs => putsD (a.put o.dst v) os vs
  | _, _ => a
theorem putsD_get : ∀ (l : List Oper) (vs : List Value) (a : Act) (t : Nat), l.length = vs.length → (∀ o ∈ l, o.dst ≠ some t) → (putsD a l vs).tmps.getD t undef = a.tmps.getD t undef
  | [], [], _, _, _, _ => rfl
  | o :: l, v :: vs, a, t, hl, h => by
    rw [putsD, putsD_get l vs _ t (by simpa using hl) fun o' ho' => h o' (List.mem_cons_of_mem _ ho')]
    have h0 := h o (by simp)
    cases hd : o.dst with
    | none => rfl
    | some d => exact getD_put_ne (by intro e; exact h0 (by rw [hd, e]))
theorem putsD_size : ∀ (l : List Oper) (vs : List Value) (a : Act), (putsD a l vs).tmps.size = a.tmps.size
  | [], _, _ => by simp [putsD]
  | _ :: _, [], _ => by simp [putsD]
  | o :: l, v :: vs, a => by rw [putsD, putsD_size l vs, size_put]
theorem putsD_defers : ∀ (l : List Oper) (vs : List Value) (a : Act), (putsD a l vs).defers = a.defers
  | [], _, _ => by simp [putsD]
  | _ :: _, [], _ => by simp [putsD]
  | o :: l, v :: vs, a => by rw [putsD, putsD_defers l vs, defers_put]
theorem putsD_at (l : List Oper) : ∀ (vs : List Value) (a : Act) (i d : Nat) (o : Oper) (v : Value), l.length = vs.length → l[i]? = some o → vs[i]? = some v → o.dst = some d → d < a.tmps.size →
    (∀ j o', j ≠ i → l[j]? = some o' → o'.dst ≠ some d) → (putsD a l vs).tmps.getD d undef = v := by
  induction l with
  | nil => intro vs a i d o v _ ho; simp at ho
  | cons o' l ih =>
    intro vs a i d o v hl ho hv hd hlt hne
    cases vs with
    | nil => simp at hv
    | cons v' vs =>
      rw [putsD]
      cases i with
      | zero =>
        simp only [List.getElem?_cons_zero, Option.some.injEq] at ho hv
        subst ho hv
        rw [putsD_get l vs _ d (by simpa using hl) fun o'' ho'' => by
          obtain ⟨j, hj, e⟩ := List.mem_iff_getElem.1 ho''
          exact hne (j + 1) o'' (by omega) (by rw [List.getElem?_cons_succ, List.getElem?_eq_getElem hj, e])]
        rw [hd]
        exact getD_put_self hlt
      | succ i =>
        exact ih vs _ i d o v (by simpa using hl) (by simpa using ho) (by simpa using hv) hd (by rw [size_put]; exact hlt) fun j o'' hj ho'' => hne (j + 1) o'' (by omega) (by simpa using ho'')
theorem wpAny_start {l : List Oper} {Q : Exit → Act → World → Prop} {a0 : Act} {w0 : World} (I : World → Prop) (A : Nat → Value → World → Prop) (G : Nat → World → World → Prop)
    (hsh : shapeD a0.tmps.size l.toArray = true) (hI : I w0.drew)
    (hst : ∀ i j, i ≠ j → ∀ v w w', G i w w' → A j v w → A j v w')
    (hstep : ∀ i o, l[i]? = some o → ∀ a w, I w → FrD l.toArray a0 a → (∀ e ∈ o.after, Region.binds .any e = true → SatD l.toArray A a w e.on) →
      if Region.wanted o (yielded l.toArray a.tmps) then OpOK P o a w (fun v w' => I w' ∧ G i w w' ∧ A i (slotD o v) w') else A i undef w)
    (hend : ∀ (vs : List Value) w, vs.length = l.length → I w → (∀ i v, vs[i]? = some v → A i v w) → Q .normal (putsD a0 l vs) w) : wpAny P .any l.toArray Q l.toArray.size (Array.replicate l.toArray.size false) a0 w0.drew := by
  refine wpAny_D (I := I) (A := A) (G := G) hsh hst (fun i o ho => hstep i o (by simpa using ho)) ?_ _ _ _ _ (by simp) ?_ ⟨hI, rfl, rfl, fun _ _ => rfl, fun i hi => ?_⟩
  · intro a w hIw hF hS
    let vs : List Value := l.map fun (o : Oper) => match o.dst with | some d => a.tmps.getD d undef | none => undef
    have hvl : vs.length = l.length := by simp [vs]
    have ha : a = putsD a0 l vs := by
      have h1 : a.tmps = (putsD a0 l vs).tmps := by
        apply Array.ext
        · rw [putsD_size, hF.2.1]
        · intro t ht1 ht2
          have key : a.tmps.getD t undef = (putsD a0 l vs).tmps.getD t undef := by
            by_cases hex : ∃ (i : Nat) (o : Oper), l[i]? = some o ∧ o.dst = some t
            · obtain ⟨i, o, ho, hd⟩ := hex
              have hlt : t < a0.tmps.size := shapeD_lt hsh (i := i) (o := o) (by simpa using ho) hd
              refine (putsD_at l vs a0 i t o (a.tmps.getD t undef) hvl.symm ho ?_ hd hlt fun j o' hj ho' => ?_).symm
              · simp [vs, ho, hd]
              · exact shapeD_ne hsh (i := i) (j := j) (o := o) (o' := o') (by simpa using ho) (by simpa using ho') (Ne.symm hj) hd
            · rw [putsD_get l vs a0 t hvl.symm fun o ho hd => hex ?_]
              · exact hF.2.2 t fun i o ho hd => hex ⟨i, o, by simpa using ho, hd⟩
              · obtain ⟨j, hj, e⟩ := List.mem_iff_getElem.1 ho
                exact ⟨j, o, by rw [List.getElem?_eq_getElem hj, e], hd⟩
          simpa [ht1, ht2] using key
      have h2 : a.defers = (putsD a0 l vs).defers := by rw [putsD_defers, hF.1]
      cases a
      generalize hp : putsD a0 l vs = b at *
      cases b
      simp_all
    rw [ha]
    refine hend vs w hvl hIw fun i v hv => ?_
    have hi : i < l.length := by rw [← hvl]; exact (List.getElem?_eq_some_iff.1 hv).1
    have h3 := hS i (by simpa using hi) l[i] (by simp [hi])
    have h4 : v = (match l[i].dst with | some d => a.tmps.getD d undef | none => undef) := by
      simp only [vs, List.getElem?_map, List.getElem?_eq_getElem hi, Option.map_some, Option.some.injEq] at hv
      exact hv.symm
    rw [h4]
    exact h3
  · rw [Array.toList_replicate, List.count_replicate_self]; exact Nat.le_refl _
  · exfalso
    rw [Array.getD_eq_getD_getElem?, Array.getElem?_replicate] at hi
    split at hi <;> simp at hi
theorem wp_region_D {id : Nat} {l : List Oper} {Q : Exit → Act → World → Prop} {a0 : Act} {w0 : World} (I : World → Prop) (A : Nat → Value → World → Prop) (G : Nat → World → World → Prop) (hm : P.follows .mixedOrders = true)
    (hsh : shapeD a0.tmps.size l.toArray = true) (hI : I w0.drew)
    (hst : ∀ i j, i ≠ j → ∀ v w w', G i w w' → A j v w → A j v w')
    (hstep : ∀ i o, l[i]? = some o → ∀ a w, I w → FrD l.toArray a0 a → (∀ e ∈ o.after, Region.binds .any e = true → SatD l.toArray A a w e.on) →
      if Region.wanted o (yielded l.toArray a.tmps) then OpOK P o a w (fun v w' => I w' ∧ G i w w' ∧ A i (slotD o v) w') else A i undef w)
    (hend : ∀ (vs : List Value) w, vs.length = l.length → I w → (∀ i v, vs[i]? = some v → A i v w) → Q .normal (putsD a0 l vs) w) : (Code.region id l.toArray true).wp P Q a0 w0 :=
  wp_region_any hm (wpAny_start I A G hsh hI hst hstep hend)
end
end Go.Proofs.Ytohdkmgnnncpkaa
