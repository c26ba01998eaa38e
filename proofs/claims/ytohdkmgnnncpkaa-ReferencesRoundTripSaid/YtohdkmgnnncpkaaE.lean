/- A region that draws its order, by what each slot holds behind it: plain values, rows of the call's own. Over any program; no condition. -/
import Derived.Test.YtohdkmgnnncpkaaD
namespace Go.Proofs.Ytohdkmgnnncpkaa
open Go.RowKit
section
variable {P : Program} {ρ : Operand → Value} {dst : Option Tmp} {ty : TypeId} {pos : String} {after : Array Edge} {guard : Option (Nat × Bool)}
theorem ex_move {x : Operand} {v : Value} (hx : ρ x = v) (w : World) : (execOp ρ { dst := dst, op := .move x, type := ty, pos := pos, after := after, guard := guard }).run P w = .ok (.value v) w := by
  simp only [execOp, hx, Sem.run_pure]
theorem ex_assign {x : Operand} {v : Value} (hx : ρ x = v) (w : World) : (execOp ρ { dst := dst, op := .assign x, type := ty, pos := pos, after := after, guard := guard }).run P w = .ok (.value v) w := by
  simp only [execOp, hx, Sem.run_pure]
theorem ex_pick {c x y : Operand} {b : Bool} {v : Value} (hc : ρ c = .bool b) (hv : (if b then ρ x else ρ y) = v) (w : World) : (execOp ρ { dst := dst, op := .pick c x y, type := ty, pos := pos, after := after, guard := guard }).run P w = .ok (.value v) w := by
  simp only [execOp, hc, asBool, Sem.run_bind, Sem.run_pure, Result.andThen_ok, hv]
theorem ex_index {t e : TypeId} {sz bytes : Nat} (hE : Elem P t e sz bytes) {x i : Operand} {ad : Addr} {n c j : Nat} {q : Int} {k : IntKind} (hx : ρ x = .slice (some ad) n c) (hi : ρ i = .int k q) (hq : q = (j : Int)) (hj : j < n) (w : World) :
    (execOp ρ { dst := dst, op := .indexAddr t x i, type := ty, pos := pos, after := after, guard := guard }).run P w = .ok (.value (.pointer (some (ad.add (j * sz))))) w := by
  subst hq
  obtain ⟨ht, hsz, _, ii, z, hi', _, hsize, _, _⟩ := hE
  have h2 : ∀ w, (sizeOf e).run P w = .ok sz w := run_sizeOf (by rw [hi']; simp [hsize])
  have hc : (0 : Int) ≤ (j : Int) ∧ (j : Int) < n := by omega
  simp only [execOp, hx, hi, Instr.indexAt, asIntOf, Sem.run_bind, Sem.run_pure, Result.andThen_ok, run_underlying ht, h2, hc, and_self, if_true, Int.toNat_natCast]
theorem ex_len {t e : TypeId} (ht : P.underlying t = some (.slice e)) {x : Operand} {ao : Option Addr} {n c : Nat} (hx : ρ x = .slice ao n c) (w : World) :
    (execOp ρ { dst := dst, op := .call { callee := .builtin .len, args := #[x], argTypes := #[t] }, type := ty, pos := pos, after := after, guard := guard }).run P w = .ok (.value (.int .i64 n)) w := by
  rw [BigFrame.execOp_builtin, BigFrame.builtin_len]
  simp [hx, Builtin.len_, run_underlying ht, goInt]
theorem ex_cmp {op : BinOp} {t yt : TypeId} {x y : Operand} {k : IntKind} {p q : Int} {b : Bool} (ho : isCmp op = true) (hx : ρ x = .int k p) (hy : ρ y = .int k q) (hb : cmpB op p q = b) (w : World) :
    (execOp ρ { dst := dst, op := .binOp op t x y yt, type := ty, pos := pos, after := after, guard := guard }).run P w = .ok (.value (.bool b)) w := by
  simp only [execOp, hx, hy, Sem.run_bind, eqGuard_at_int, Sem.run_pure, Result.andThen_ok, run_cmp ho, hb]
theorem ex_arith {op : BinOp} {t yt : TypeId} {x y : Operand} {k : IntKind} {p q r : Int} (ho : isArith op = true) (hx : ρ x = .int k p) (hy : ρ y = .int k q) (hr : k.wrap (arithI op p q) = r) (w : World) :
    (execOp ρ { dst := dst, op := .binOp op t x y yt, type := ty, pos := pos, after := after, guard := guard }).run P w = .ok (.value (.int k r)) w := by
  have he : ∀ u v, eqGuard op t x y u v = pure () := by intro u v; cases op <;> simp [isArith] at ho <;> rfl
  simp only [execOp, hx, hy, Sem.run_bind, he, Sem.run_pure, Result.andThen_ok, run_arith ho, hr]
theorem ex_not {t : TypeId} {x : Operand} {b : Bool} (hx : ρ x = .bool b) (w : World) : (execOp ρ { dst := dst, op := .unOp .not t x, type := ty, pos := pos, after := after, guard := guard }).run P w = .ok (.value (.bool !b)) w := by
  simp [execOp, hx, Op.unary]
/-- x[k:] -/
theorem ex_slice_from {t e : TypeId} {sz bytes : Nat} (hE : Elem P t e sz bytes) {x lo : Operand} {ao : Option Addr} {n c j : Nat} {q : Int} {k : IntKind} (hx : ρ x = .slice ao n c) (hi : ρ lo = .int k q) (hq : q = (j : Int)) (hj : j ≤ n) (w : World) :
    (execOp ρ { dst := dst, op := .slice t x (some lo) none none, type := ty, pos := pos, after := after, guard := guard }).run P w = .ok (.value (.slice (if c = j then ao else ao.map (·.add (j * sz))) (n - j) (c - j))) w := by
  subst hq
  obtain ⟨ht, hsz, _, ii, z, hi', _, hsize, _, _⟩ := hE
  have h2 : ∀ w, (sizeOf e).run P w = .ok sz w := run_sizeOf (by rw [hi']; simp [hsize])
  have hc : (0 : Int) ≤ (j : Int) ∧ (j : Int) ≤ n := by omega
  simp [execOp, hx, hi, Instr.sliceAt, Instr.slice, Instr.sliceBounds, Instr.sliceBound, asIntOf, run_underlying ht, h2, hj]
end
theorem Sl.drop {w : World} {ao : Option Addr} {n c sz j : Nat} {cs : List Value} (h : Sl w (.slice ao n c) sz n cs) (hj : j ≤ n) : Sl w (.slice (if c = j then ao else ao.map (·.add (j * sz))) (n - j) (c - j)) sz (n - j) (cs.drop (j * sz)) := by
  obtain ⟨ao', cap, e, hc, hl, hcell⟩ := h
  simp only [Value.slice.injEq, true_and] at e
  obtain ⟨rfl, rfl⟩ := e
  refine ⟨_, _, rfl, by omega, by rw [List.length_drop, hl, Nat.sub_mul], fun i u hu => ?_⟩
  rw [List.getElem?_drop] at hu
  obtain ⟨a, ha, h⟩ := hcell _ _ hu
  subst ha
  have hlt : j * sz + i < n * sz := by
    have := (List.getElem?_eq_some_iff.1 hu).1
    omega
  have hne : c ≠ j := by
    intro e
    have : n = j := by omega
    subst this
    omega
  rw [if_neg hne]
  refine ⟨_, rfl, ?_⟩
  have e2 : (a.add (j * sz)).add i = a.add (j * sz + i) := by
    unfold Addr.add; split <;> split <;> simp_all <;> omega
  rw [e2]
  exact h

theorem Sl.dropm {w : World} {ao : Option Addr} {n c sz j : Nat} {cs : List Value} (h : Sl w (.slice ao n c) sz n cs) (hj : j < n) : Sl w (.slice (ao.map (·.add (j * sz))) (n - j) (c - j)) sz (n - j) (cs.drop (j * sz)) := by
  have := h.drop (j := j) (by omega)
  rwa [if_neg (by have := h.cap.2; omega)] at this

/-! ### What a slot holds, told so that it stays true while memory grows -/
structure Asr where
  p : Value → World → Prop
  st : ∀ v w w', p v w → Below w.heap.size w w' → p v w'
def Asr.is (u : Value) : Asr := ⟨fun v _ => v = u, fun _ _ _ h _ => h⟩
def Asr.any : Asr := ⟨fun _ _ => True, fun _ _ _ _ _ => trivial⟩
theorem ownsRow_below {w w' : World} {base : Nat} {e : TypeId} {sz n : Nat} {v : Value} {xs : List Value} (h : w.ownsRow base e sz v n xs) (hb : Below w.heap.size w w') : w'.ownsRow base e sz v n xs := by
  refine ⟨h.1, ?_⟩
  rcases h.2 with hn | ⟨g, cap, cur, hv, hgb, hh, rest⟩
  · exact .inl hn
  · exact .inr ⟨g, cap, cur, hv, hgb, (hb.block g (Array.getElem?_eq_some_iff.1 hh).1).trans hh, rest⟩
/-- A row that the region has made. -/
def Asr.row (base : Nat) (e : TypeId) (sz n : Nat) (xs : List Value) : Asr := ⟨fun v w => w.ownsRow base e sz v n xs, fun _ _ _ h hb => ownsRow_below h hb⟩
/-- A row that is full. -/
def Asr.full (base : Nat) (e : TypeId) (sz n : Nat) (xs : List Value) : Asr := ⟨fun v w => (∃ ao, v = .slice ao n n) ∧ w.ownsRow base e sz v n xs, fun _ _ _ h hb => ⟨h.1, ownsRow_below h.2 hb⟩⟩
def Asr.sl (sz n : Nat) (cs : List Value) : Asr := ⟨fun v w => Sl w v sz n cs, fun _ _ _ h hb => h.below hb⟩
theorem OpOK.mono {P : Program} {o : Oper} {a : Act} {w : World} {R R' : Value → World → Prop} (h : OpOK P o a w R) (hR : ∀ v w', R v w' → R' v w') : OpOK P o a w R' := by
  unfold OpOK at *
  generalize (execOp a.eval o).run P w = r at *
  cases r with
  | halt x w' => exact h.elim
  | ok n w' =>
    cases n <;> first | exact h.elim | exact hR _ _ h | skip
    exact Calls.mono h fun e w'' ⟨v, he, hr⟩ => ⟨v, he, hR _ _ hr⟩
/-- Each by its place. -/
def eachD (X : Nat → Oper → Prop) : Nat → List Oper → Prop
  | _, [] => True
  | i, o :: r => X i o ∧ eachD X (i + 1) r
theorem eachD_get (X : Nat → Oper → Prop) : ∀ (l : List Oper) (k : Nat), eachD X k l → ∀ i o, l[i]? = some o → X (k + i) o
  | [], _, _, i, o, h => by simp at h
  | o' :: l, k, h, i, o, ho => by
    cases i with
    | zero => simp only [List.getElem?_cons_zero, Option.some.injEq] at ho; subst ho; exact h.1
    | succ i =>
      have := eachD_get X l (k + 1) h.2 i o (by simpa using ho)
      rw [show k + 1 + i = k + (i + 1) by omega] at this
      exact this
/-- What holds behind the region: the slots' values, one by one. -/
def endD (w : World) : List Asr → (List Value → Prop) → Prop
  | [], Q => Q []
  | A :: L, Q => ∀ v, A.p v w → endD w L fun vs => Q (v :: vs)
theorem endD_get {w : World} : ∀ (L : List Asr) (Q : List Value → Prop), endD w L Q → ∀ vs : List Value, vs.length = L.length → (∀ i v, vs[i]? = some v → (L.getD i Asr.any).p v w) → Q vs
  | [], Q, h, vs, hl, _ => by
    have : vs = [] := List.eq_nil_of_length_eq_zero (by simpa using hl)
    subst this; exact h
  | A :: L, Q, h, vs, hl, hs => by
    cases vs with
    | nil => simp at hl
    | cons v vs =>
      exact endD_get L (fun vs => Q (v :: vs)) (h v (hs 0 v rfl)) vs (by simpa using hl) fun i u hu => by
        have := hs (i + 1) u (by simpa using hu)
        simpa using this
/-- What operation i of the region has to show. -/
def ShowD (P : Program) (l : List Oper) (a0 : Act) (I : World → Prop) (L : List Asr) (i : Nat) (o : Oper) : Prop :=
  ∀ a w, I w → FrD l.toArray a0 a → (∀ e ∈ o.after, Region.binds .any e = true → SatD l.toArray (fun i => (L.getD i Asr.any).p) a w e.on) →
    if Region.wanted o (yielded l.toArray a.tmps) then OpOK P o a w (fun v w' => Below w.heap.size w w' ∧ (L.getD i Asr.any).p (slotD o v) w') else (L.getD i Asr.any).p undef w
theorem eachD_nil {X : Nat → Oper → Prop} {i : Nat} : eachD X i [] := trivial
theorem eachD_cons {X : Nat → Oper → Prop} {i : Nat} {o : Oper} {r : List Oper} (h : X i o) (t : eachD X (i + 1) r) : eachD X i (o :: r) := ⟨h, t⟩
def notDst (t : Tmp) (l : List Oper) : Bool := l.all fun o => match o.dst with | some d => decide (d ≠ t) | none => true
theorem notDst_of {t : Tmp} {l : List Oper} (h : notDst t l = true) : ∀ (i : Nat) (o : Oper), l.toArray[i]? = some o → o.dst ≠ some t := by
  intro i o ho e
  have hm : o ∈ l := List.mem_of_getElem? (by simpa using ho)
  have := List.all_eq_true.1 h o hm
  rw [e] at this
  simp at this
theorem wantD {o : Oper} {y : Nat → Option Bool} {p q : Prop} (hw : Region.wanted o y = true) (h : p) : if Region.wanted o y = true then p else q := by rw [if_pos hw]; exact h
theorem skipD {o : Oper} {y : Nat → Option Bool} {p q : Prop} (hw : Region.wanted o y = false) (h : q) : if Region.wanted o y = true then p else q := by rw [if_neg (by rw [hw]; exact Bool.false_ne_true)]; exact h
theorem wanted_of {ops : Array Oper} {a : Act} {o : Oper} {j : Nat} {d : Tmp} {b want r : Bool} (hg : o.guard = some (j, want)) (hd : (ops[j]?).bind (·.dst) = some d) (hv : a.eval (.tmp d) = .bool b) (hr : (b == want) = r) :
    Region.wanted o (yielded ops a.tmps) = r := by
  have hy : yielded ops a.tmps j = some b := by
    unfold yielded
    rw [hd]
    simp only [Act.eval, Array.getD_eq_getD_getElem?] at hv
    cases h : a.tmps[d]? with
    | none => rw [h] at hv; exact absurd hv (by unfold undef; simp)
    | some u => rw [h] at hv; simp only [Option.getD_some] at hv; subst hv; simp [h]
  unfold Region.wanted
  rw [hg]
  simp only [hy]
  subst hr
  cases b <;> cases want <;> rfl
section
variable {P : Program} {w0 w : World} {S : List Nat} {bs : List (Nat × Obj)} {rows : List Row} {a0 : Act} {Q : Exit → Act → World → Prop}
theorem wpAny_R {l : List Oper} (L : List Asr) (hH : Holds w0 S bs rows w) (hsh : shapeD a0.tmps.size l.toArray = true) (hlen : L.length = l.length)
    (hstep : eachD (ShowD P l a0 (fun w' => Holds w0 S bs rows w' ∧ Below w.heap.size w w') L) 0 l)
    (hend : ∀ w', Holds w0 S bs rows w' → Below w.heap.size w w' → endD w' L fun vs => Q .normal (putsD a0 l vs) w') : wpAny P .any l.toArray Q l.toArray.size (Array.replicate l.toArray.size false) a0 w.drew := by
  refine wpAny_start (fun w' => Holds w0 S bs rows w' ∧ Below w.heap.size w w') (fun i => (L.getD i Asr.any).p) (fun _ w w' => Below w.heap.size w w') hsh ⟨hH.drew, below_drew w⟩ ?_ ?_ ?_
  · intro i j _ v w w' hb hA
    exact (L.getD j Asr.any).st v w w' hA hb
  · intro i o ho a w1 hI hF hS
    have h := eachD_get _ l 0 hstep i o ho a w1 hI hF hS
    rw [Nat.zero_add] at h
    split
    · rename_i hw
      rw [if_pos hw] at h
      exact h.mono fun v w' h => ⟨⟨hI.1.grow h.1, hI.2.trans (h.1.mono hI.2.size)⟩, h⟩
    · rename_i hw
      rw [if_neg hw] at h
      exact h
  · intro vs w' hl hI hA
    exact endD_get L _ (hend w' hI.1 hI.2) vs (by rw [hl, hlen]) hA
theorem wp_region_R {id : Nat} {l : List Oper} (L : List Asr) (hH : Holds w0 S bs rows w) (hm : P.follows .mixedOrders = true) (hsh : shapeD a0.tmps.size l.toArray = true) (hlen : L.length = l.length)
    (hstep : eachD (ShowD P l a0 (fun w' => Holds w0 S bs rows w' ∧ Below w.heap.size w w') L) 0 l)
    (hend : ∀ w', Holds w0 S bs rows w' → Below w.heap.size w w' → endD w' L fun vs => Q .normal (putsD a0 l vs) w') : (Code.region id l.toArray true).wp P Q a0 w :=
  wp_region_any hm (wpAny_R L hH hsh hlen hstep hend)
/-- A plain operation. -/
theorem op_val {o : Oper} {a : Act} {v : Value} {A : Value → World → Prop} {d : Tmp} (hd : o.dst = some d) (hr : (execOp a.eval o).run P w = .ok (.value v) w) (hA : A v w) :
    OpOK P o a w (fun v w' => Below w.heap.size w w' ∧ A (slotD o v) w') := by
  unfold OpOK; rw [hr]
  refine ⟨Below.refl _ _, ?_⟩
  unfold slotD; rw [hd]; exact hA
theorem op_new {o : Oper} {a : Act} {v : Value} {w' : World} {A : Value → World → Prop} {d : Tmp} (hd : o.dst = some d) (hr : (execOp a.eval o).run P w = .ok (.value v) w') (hb : Below w.heap.size w w') (hA : A v w') :
    OpOK P o a w (fun v w' => Below w.heap.size w w' ∧ A (slotD o v) w') := by
  unfold OpOK; rw [hr]
  refine ⟨hb, ?_⟩
  unfold slotD; rw [hd]; exact hA
theorem op_call {f : FuncId} (hf : Body P f) {a : Act} {d : Tmp} {ty : TypeId} {pos : String} {after : Array Edge} {guard : Option (Nat × Bool)} {xs : Array Operand} {ats : Array TypeId} {args : Array Value} {A : Value → World → Prop} (ha : (xs.toList.map a.eval).toArray = args)
    (hc : Calls P f args w fun e w' => ∃ v, e = .returned v ∧ Below w.heap.size w w' ∧ A v w') :
    OpOK P { dst := some d, op := .call { callee := .value (.func f), args := xs, argTypes := ats }, type := ty, pos := pos, after := after, guard := guard } a w (fun v w' => Below w.heap.size w w' ∧ A (slotD { dst := some d, op := .call { callee := .value (.func f), args := xs, argTypes := ats }, type := ty, pos := pos, after := after, guard := guard } v) w') := by
  unfold OpOK
  rw [ex_call hf (args := args) (by rw [← ha, ← Array.toList_map, Array.toArray_toList]) w]
  exact hc
end
section
variable {P : Program} {w : World} {ρ : Operand → Value} {dst : Option Tmp} {ty : TypeId} {pos : String} {after : Array Edge} {guard : Option (Nat × Bool)}
/-- A literal's row. -/
theorem ex_buildArr {t e : TypeId} {sz bytes : Nat} (hE : Elem P t e sz bytes) (l : List (Arr sz)) {parts : Array (Nat × Operand)} {n : Nat}
    (hn : n = l.length) (hp : (parts.toList.map fun p => (p.1, ρ p.2)) = ((l.map Arr.val).zipIdx 0).map fun p => (p.2, p.1)) (hb : n * sz ≤ 16777216) (w : World) :
    ∃ v w', (execOp ρ { dst := dst, op := .buildSlice t n parts, type := ty, pos := pos, after := after, guard := guard }).run P w = .ok (.value v) w' ∧ Below w.heap.size w w' ∧
      ∀ base, base ≤ w.heap.size → (∃ ao, v = .slice ao n n) ∧ w'.ownsRow base e sz v n (flat l) := by
  have hv : ∀ v ∈ l.map Arr.val, v.cells.size = sz := by
    intro v hv
    obtain ⟨x, _, rfl⟩ := List.mem_map.1 hv
    simp [Arr.val, Value.cells, Arr.len]
  have h := run_buildSlice (P := P) hE (l.map Arr.val) hv (by simpa [← hn] using hb) w
  have hx : (l.map Arr.val).flatMap (·.cells.toList) = flat l := by rw [List.flatMap_map]; rfl
  rw [hx, List.length_map, ← hn] at h
  have hb2 : n * 1 ≤ n * sz := Nat.mul_le_mul_left _ hE.2.1
  refine ⟨_, w.alloc (.cells (flat l).toArray e), ?_, below_alloc w _, fun base hbase => ⟨⟨_, rfl⟩, by rw [flat_len, ← hn], .inr ⟨w.heap.size, n, _, rfl, hbase, heap_alloc_new w _, Nat.le_refl _, by unfold maxLen; omega, ?_, ?_⟩⟩⟩
  · simp only [execOp, Sem.run_bind]
    rw [show (parts.map fun x => match x with | (i, y) => (i, ρ y)) = (parts.toList.map fun p => (p.1, ρ p.2)).toArray by rw [← Array.toList_map, Array.toArray_toList], hp, h]
    rfl
  · simp [flat_len, ← hn]
  · rw [hn, ← flat_len, List.take_length]
/-- append onto a row that is full. -/
theorem ex_append_full {t e : TypeId} {sz bytes : Nat} (hE : Elem P t e sz bytes) {base : Nat} {v x : Value} {n m : Nat} {xs news : List Value} (hv : (∃ ao, v = .slice ao n n) ∧ w.ownsRow base e sz v n xs) (hx : Sl w x sz m news) (h1 : ∀ u ∈ news, u.oneCell' = true)
    (hb : (n + m) * bytes ≤ 140737488355328) (hbase : base ≤ w.heap.size) {s y : Operand} (hs : ρ s = v) (hy : ρ y = x) :
    ∃ v' w', (execOp ρ { dst := dst, op := .call { callee := .builtin .append, args := #[s, y], argTypes := #[t, t] }, type := ty, pos := pos, after := after, guard := guard }).run P w = .ok (.value v') w' ∧
      Below w.heap.size w w' ∧ w'.ownsRow base e sz v' (n + m) (xs ++ news) := by
  obtain ⟨⟨ao, rfl⟩, ho⟩ := hv
  obtain ⟨ht, hsz, hb1, i, z, hi, hz, hsize, hby, hzs⟩ := hE
  have hb2 : (n + m) * 1 ≤ (n + m) * bytes := Nat.mul_le_mul_left _ hb1
  obtain ⟨v', w', hr, h2, h3, h4, h5⟩ := run_append_row (P := P) t ty e i z sz bytes ht hi hz hsize hby hzs hsz ho hx h1 (by unfold maxLen; omega) hb hbase
  refine ⟨v', w', ?_, ?_, h2⟩
  · rw [BigFrame.execOp_builtin, BigFrame.builtin_append]
    simp only [Sem.run_bind, List.map_toArray, List.map_cons, List.map_nil, hs, hy, hr, Result.andThen_ok, Sem.run_pure]
  · exact h5 ⟨ao, rfl⟩
end
end Go.Proofs.Ytohdkmgnnncpkaa
