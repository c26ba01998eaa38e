/- General facts, over any program: the operations on arrays of bytes, on slices of them and on the call's own memory. No condition. -/
import Derived.Test.YtohdkmgnnncpkaaA
namespace Go.Proofs.Ytohdkmgnnncpkaa
open Go.RowKit
section
variable {P : Program}

/-! ### An operation whose run is known -/
theorem wpList_ex {ops : Array Oper} {rest : List Oper} {o : Oper} {a : Act} {w w' : World} {v : Value} {Q : Exit → Act → World → Prop} (hg : Region.wanted o (yielded ops a.tmps) = true)
    (hr : (execOp a.eval o).run P w = .ok (.value v) w') (h : wpList P ops Q rest (a.put o.dst v) w') : wpList P ops Q (o :: rest) a w :=
  wpList_step fun K hK => by rw [if_pos hg]; unfold Oper.wp; rw [hr]; exact hK _ _ h
theorem wpList_exskip {ops : Array Oper} {rest : List Oper} {o : Oper} {a : Act} {w w' : World} {Q : Exit → Act → World → Prop} (hg : Region.wanted o (yielded ops a.tmps) = true)
    (hr : (execOp a.eval o).run P w = .ok .skip w') (h : wpList P ops Q rest (a.put o.dst undef) w') : wpList P ops Q (o :: rest) a w :=
  wpList_step fun K hK => by rw [if_pos hg]; unfold Oper.wp; rw [hr]; exact hK _ _ h
theorem wpQuiet_ex {ops : Array Oper} {rest : List Oper} {o : Oper} {a : Act} {C : World → Prop} {v : Value} {Q : Act → Prop} (hg : Region.wanted o (yielded ops a.tmps) = true)
    (hr : ∀ w, C w → (execOp a.eval o).run P w = .ok (.value v) w) (h : wpQuiet P ops C Q rest (a.put o.dst v)) : wpQuiet P ops C Q (o :: rest) a :=
  wpQuiet_step fun K hK => by
    rw [if_pos hg]
    exact ⟨v, fun w hw => by unfold Oper.quietAt; rw [hr w hw]; exact ⟨rfl, rfl⟩, hK _ h⟩
theorem wpQuiet_call {ops : Array Oper} {rest : List Oper} {o : Oper} {a : Act} {C : World → Prop} {v : Value} {f : FuncId} {args : Array Value} {Q : Act → Prop} (hg : Region.wanted o (yielded ops a.tmps) = true)
    (hr : ∀ w, (execOp a.eval o).run P w = .ok (.enter f args) w) (hc : ∀ w, C w → Calls P f args w fun e w' => e = .returned v ∧ C w')
    (h : wpQuiet P ops C Q rest (a.put o.dst v)) : wpQuiet P ops C Q (o :: rest) a :=
  wpQuiet_step fun K hK => by
    rw [if_pos hg]
    exact ⟨v, fun w hw => by unfold Oper.quietAt; rw [hr w]; exact ⟨rfl, hc w hw⟩, hK _ h⟩

/-! ### Loads -/
/-- A struct's or an array's type. -/
def aggD : TypeDesc → Bool | .struct _ | .array _ _ => true | _ => false
theorem run_loadVar_agg {t : TypeId} {d : TypeDesc} (hu : P.underlying t = some d) (hd : aggD d = true) {sz : Nat}
    (hi : (P.info? t).map (·.size) = some sz) {ad : Addr} {cs : List Value} (hl : cs.length = sz) {w : World} (hc : ∀ j u, cs[j]? = some u → w.cell? (ad.add j) = some u) :
    (loadVar t ad).run P w = .ok (.agg cs.toArray) w := by
  have h1 : (isAgg t).run P w = .ok true w := by
    simp only [isAgg, Sem.run_bind, run_underlying hu, Result.andThen_ok]
    cases d <;> simp_all [aggD]
  have h2 : (sizeOf t).run P w = .ok sz w := by
    simp only [sizeOf, typeInfo, Sem.run_bind, run_program, Result.andThen_ok]
    cases hh : P.info? t with
    | none => rw [hh] at hi; simp at hi
    | some i => rw [hh] at hi; simp at hi; simp [hi]
  simp only [loadVar, Sem.run_bind, h1, Result.andThen_ok, if_true, h2]
  rw [← hl, run_loadCells_list w ad cs hc]
  rfl
theorem ex_load_agg {ρ : Operand → Value} {dst : Option Tmp} {t ty : TypeId} {x : Operand} {pos : String} {after : Array Edge} {guard : Option (Nat × Bool)} {ad : Addr} (hx : ρ x = .pointer (some ad))
    {d : TypeDesc} (hu : P.underlying t = some d) (hd : aggD d = true) {sz : Nat}
    (hi : (P.info? t).map (·.size) = some sz) {cs : List Value} (hl : cs.length = sz) {w : World} (hc : ∀ j u, cs[j]? = some u → w.cell? (ad.add j) = some u) :
    (execOp ρ { dst := dst, op := .load t x, type := ty, pos := pos, after := after, guard := guard }).run P w = .ok (.value (.agg cs.toArray)) w := by
  simp only [execOp, hx, Instr.loadAt, Instr.sureAddr, Sem.run_bind, Sem.run_pure, Result.andThen_ok, run_loadVar_agg hu hd hi hl hc]
theorem ex_load_one {ρ : Operand → Value} {dst : Option Tmp} {t ty : TypeId} {x : Operand} {pos : String} {after : Array Edge} {guard : Option (Nat × Bool)} {ad : Addr} (hx : ρ x = .pointer (some ad))
    {d : TypeDesc} (hu : P.underlying t = some d) (hd : aggD d = false) {v : Value} {w : World} (hc : w.cell? ad = some v) :
    (execOp ρ { dst := dst, op := .load t x, type := ty, pos := pos, after := after, guard := guard }).run P w = .ok (.value v) w := by
  have h1 : (isAgg t).run P w = .ok false w := by
    simp only [isAgg, Sem.run_bind, run_underlying hu, Result.andThen_ok]
    cases d <;> simp_all [aggD]
  simp only [execOp, hx, Instr.loadAt, Instr.sureAddr, Sem.run_bind, Sem.run_pure, Result.andThen_ok, loadVar, h1, Bool.false_eq_true, if_false, run_load, hc]

/-! ### Equality of arrays of bytes -/
theorem eq_loop {e : TypeId} {d : Nat} {k : IntKind} (he : P.underlying e = some (.int k)) {w : World} {sz : Nat} (hsz : sz = 1) (xs ys : List UInt8) (hl : xs.length = ys.length) (cx cy : Array Value) (px : List UInt8) (py : List UInt8) (hp : px.length = py.length)
    (hx : cx = ((px ++ xs).map byt).toArray) (hy : cy = ((py ++ ys).map byt).toArray) :
    (forIn (m := Sem) (List.range' px.length xs.length) ((none, ()) : Option Bool × Unit) fun i _ => do
        let p ← part e cx (i * sz)
        let q ← part e cy (i * sz)
        let r ← Op.equalIn (d + 1) e p q
        if (!r) = true then pure (.done (some false, ())) else pure (.yield (none, ()))).run P w =
      .ok (if xs = ys then (none, ()) else (some false, ())) w := by
  subst hsz
  have hagg : ∀ w, (isAgg e).run P w = .ok false w := fun w => by simp [isAgg, run_underlying he]
  have hpart : ∀ (c : Array Value) (i : Nat) (v : Value) (w : World), c[i]? = some v → (part e c i).run P w = .ok v w := fun c i v w h => by
    simp only [part, Sem.run_bind, hagg, Result.andThen_ok, Bool.false_eq_true, if_false, h, Sem.run_pure]
  induction xs generalizing ys px py with
  | nil =>
    have : ys = [] := List.eq_nil_of_length_eq_zero (by simpa using hl.symm)
    subst this
    simp
  | cons x xs ih =>
    match ys, hl with
    | y :: ys, hl =>
      have h1 : cx[px.length]? = some (byt x) := by subst hx; simp
      have h2 : cy[px.length]? = some (byt y) := by subst hy; rw [hp]; simp
      have heq : ∀ w, (Op.equalIn (d + 1) e (byt x) (byt y)).run P w = .ok (x == y) w := fun w => by
        have := run_equalIn_int (P := P) w d e .u8 k (x.toNat : Int) (y.toNat : Int) he
        unfold byt
        rw [this]
        congr 1
        rw [Bool.eq_iff_iff, beq_iff_eq, beq_iff_eq]
        constructor
        · intro h; exact UInt8.toNat_inj.1 (by omega)
        · intro h; rw [h]
      rw [List.length_cons, List.range'_succ]
      simp only [List.forIn_cons, Sem.run_bind, Nat.mul_one, hpart _ _ _ _ h1, hpart _ _ _ _ h2, Result.andThen_ok, heq, Sem.run_ite, Result.andThen_ite, Sem.run_pure]
      by_cases hxy : x = y
      · subst hxy
        have := ih ys (by simpa using hl) (px ++ [x]) (py ++ [x]) (by simpa using hp) (by subst hx; simp) (by subst hy; simp)
        simp only [Nat.mul_one, List.length_append, List.length_singleton] at this
        simp only [beq_self_eq_true, Bool.not_true, Bool.false_eq_true, if_false]
        rw [this]
        simp
      · have : (x == y) = false := by simpa using hxy
        simp [this, hxy]
theorem run_equalIn_arr {n : Nat} {t e : TypeId} {k : IntKind} (ht : P.underlying t = some (.array n e)) (he : P.underlying e = some (.int k)) (hs : (P.info? e).map (·.size) = some 1) (d : Nat) (x y : Arr n) (w : World) :
    (Op.equalIn (d + 1 + 1) t x.val y.val).run P w = .ok (x == y) w := by
  have h2 : (sizeOf e).run P w = .ok 1 w := by
    simp only [sizeOf, typeInfo, Sem.run_bind, run_program, Result.andThen_ok]
    cases hh : P.info? e with
    | none => rw [hh] at hs; simp at hs
    | some i => rw [hh] at hs; simp at hs; simp [hs]
  have := eq_loop (P := P) (d := d) he (w := w) rfl x.1 y.1 (by rw [x.2, y.2]) x.cells.toArray y.cells.toArray [] [] rfl (by simp [Arr.cells]) (by simp [Arr.cells])
  rw [x.2] at this
  rw [Op.equalIn]
  simp only [Arr.val, Sem.run_bind, run_underlying ht, Result.andThen_ok, h2, Std.Legacy.Range.forIn_eq_forIn_range', Std.Legacy.Range.size, Nat.sub_zero, Nat.add_sub_cancel, Nat.div_one]
  simp only [List.length_nil] at this
  rw [this]
  by_cases h : x.1 = y.1
  · have h' : x = y := Subtype.ext h
    simp [h']
  · have h' : (x == y) = false := by
      rw [beq_eq_false_iff_ne]; intro e; exact h (by rw [e])
    simp [h, h']
theorem ex_eql_arr {n : Nat} {t e : TypeId} {k : IntKind} (ht : P.underlying t = some (.array n e)) (he : P.underlying e = some (.int k)) (hs : (P.info? e).map (·.size) = some 1) (hgt : P.eqGuardType P.depth t = false)
    {ρ : Operand → Value} {dst : Option Tmp} {ty yt : TypeId} {x y : Operand} {pos : String} {after : Array Edge} {guard : Option (Nat × Bool)} {p q : Arr n} (hx : ρ x = p.val) (hy : ρ y = q.val) (w : World) :
    (execOp ρ { dst := dst, op := .binOp .eql t x y yt, type := ty, pos := pos, after := after, guard := guard }).run P w = .ok (.value (.bool (p == q))) w := by
  have hr := run_equalIn_arr (P := P) ht he hs 9998 p q w
  have hg := run_eqGuard_agg (P := P) w .eql t x y p.cells.toArray q.cells.toArray hgt
  have hb := run_eql_struct (P := P) w t p.cells.toArray q.cells.toArray
  unfold Arr.val at *
  simp only [execOp, hx, hy, Sem.run_bind, hg, Result.andThen_ok, hb, hr, Sem.run_pure]
theorem ex_neq_arr {n : Nat} {t e : TypeId} {k : IntKind} (ht : P.underlying t = some (.array n e)) (he : P.underlying e = some (.int k)) (hs : (P.info? e).map (·.size) = some 1) (hgt : P.eqGuardType P.depth t = false)
    {ρ : Operand → Value} {dst : Option Tmp} {ty yt : TypeId} {x y : Operand} {pos : String} {after : Array Edge} {guard : Option (Nat × Bool)} {p q : Arr n} (hx : ρ x = p.val) (hy : ρ y = q.val) (w : World) :
    (execOp ρ { dst := dst, op := .binOp .neq t x y yt, type := ty, pos := pos, after := after, guard := guard }).run P w = .ok (.value (.bool (!(p == q)))) w := by
  have hr := run_equalIn_arr (P := P) ht he hs 9998 p q w
  have hg := run_eqGuard_agg (P := P) w .neq t x y p.cells.toArray q.cells.toArray hgt
  have hb := run_neq_struct (P := P) w t p.cells.toArray q.cells.toArray
  unfold Arr.val at *
  simp only [execOp, hx, hy, Sem.run_bind, hg, Result.andThen_ok, hb, hr, Sem.run_pure]

/-! ### append onto a row of the call's own -/
theorem run_append_row {w : World} {base : Nat} (t ty e : TypeId) (i : TypeInfo) (z : Value) (sz bytes : Nat) (ht : P.underlying t = some (.slice e)) (hi : P.info? e = some i) (hz : i.zero = some z)
    (hsize : i.size = sz) (hby : i.bytes = bytes) (hzs : z.cells.size = sz) (hsz : 0 < sz)
    {v x : Value} {n m : Nat} {xs news : List Value} (hown : w.ownsRow base e sz v n xs) (hx : Sl w x sz m news) (h1 : ∀ u ∈ news, u.oneCell' = true)
    (h63 : n + m ≤ maxLen) (hbytes : (n + m) * bytes ≤ 140737488355328) (hbase : base ≤ w.heap.size) :
    ∃ v' w', (Builtin.append_ #[t, t] ty #[v, x]).run P w = .ok v' w' ∧ w'.ownsRow base e sz v' (n + m) (xs ++ news) ∧ w.grownBy w' v.ownBlock ∧
      (v.ownBlock = v'.ownBlock ∨ ∀ k, v'.ownBlock = some k → w.heap.size ≤ k) ∧ ((∃ ao, v = .slice ao n n) → Below w.heap.size w w') := by
  subst hsize hby
  obtain ⟨ao, c, rfl, _, hl, hc⟩ := hx
  have hlen : (xs ++ news).length = (n + m) * i.size := by rw [List.length_append, hown.1, hl, Nat.add_mul]
  have hsmall : n + m ≤ 9223372036854775807 := h63
  have grows : ∀ old, old < n + m → ∀ row,
      (w.drew.alloc (.cells (xs.toArray ++ news.toArray ++ Builtin.zeroCells z.cells (grownCap w (n + m) old e - (n + m))) e)).ownsRow base e i.size
        (.slice (some ⟨w.heap.size, 0, none⟩) (n + m) (grownCap w (n + m) old e)) (n + m) (xs ++ news) ∧
      w.grownBy (w.drew.alloc (.cells (xs.toArray ++ news.toArray ++ Builtin.zeroCells z.cells (grownCap w (n + m) old e - (n + m))) e)) row := by
    intro old _ row
    have hge := grownCap_ge w (n + m) old e
    have hle := grownCap_le_maxLen w (n + m) old e h63
    refine ⟨⟨hlen, .inr ⟨w.heap.size, _, _, rfl, hbase, heap_alloc_new w.drew _, hge, hle, ?_, ?_⟩⟩, ⟨rfl, rfl, rfl, by simp, fun k hk _ => RowKit.Below.heap_alloc w.drew _ k hk⟩⟩
    · rw [Array.size_append, Array.size_append, size_zeroCells, hzs, List.size_toArray, List.size_toArray, ← List.length_append, hlen, ← Nat.add_mul]
      congr 1; omega
    · rw [Array.toList_append, Array.toList_append, ← hlen]
      simp only [List.append_assoc]
      rw [← List.append_assoc]
      exact List.take_left
  cases ao with
  | none =>
    have hnil : news = [] := by
      cases news with
      | nil => rfl
      | cons u l => obtain ⟨a, ha, _⟩ := hc 0 u rfl; cases ha
    subst hnil
    have hm : m = 0 := by
      rcases Nat.eq_zero_or_pos m with h | h
      · exact h
      · have := Nat.mul_pos h hsz
        simp only [List.length_nil] at hl
        omega
    subst hm
    rw [List.append_nil, Nat.add_zero]
    refine ⟨v, w, ?_, hown, ⟨rfl, rfl, rfl, Nat.le_refl _, fun _ _ _ => rfl⟩, .inl rfl, fun _ => Below.refl _ _⟩
    rcases hown.2 with ⟨rfl, rfl⟩ | ⟨g, cap, cur, rfl, _, _, hnc, _⟩
    · simp [Builtin.append_, run_underlying ht, sizeOf, typeInfo, hi, Builtin.lenOf, Builtin.firstCells]
    · simp [Builtin.append_, run_underlying ht, sizeOf, typeInfo, hi, Builtin.lenOf, Builtin.firstCells, hnc, storeCells]
  | some a =>
    have hc' : ∀ j u, news[j]? = some u → w.cell? (a.add j) = some u := fun j u hu => by
      obtain ⟨a', ha, h⟩ := hc j u hu; cases ha; exact h
    rcases hown.2 with ⟨rfl, rfl⟩ | ⟨g, cap, cur, rfl, hbg, hg, hnc, hcm, hcs, htake⟩
    · have hxs : xs = [] := List.eq_nil_of_length_eq_zero (by simpa using hown.1)
      subst hxs
      by_cases hm : m = 0
      · subst hm
        have hn : news = [] := List.eq_nil_of_length_eq_zero (by simpa using hl)
        subst hn
        refine ⟨.slice none 0 0, w, ?_, World.ownsRow_nil w base e i.size, ⟨rfl, rfl, rfl, Nat.le_refl _, fun _ _ _ => rfl⟩, .inl rfl, fun _ => Below.refl _ _⟩
        simp [Builtin.append_, run_underlying ht, sizeOf, typeInfo, hi, Builtin.lenOf, Builtin.firstCells, loadCells, loadCellsFrom]
      · have hr := run_append_nil (P := P) w t ty e i z ht hi hz a m c news hl hc' (by omega) (by omega) (by have hb := hbytes; simp only [Nat.zero_add] at hb; omega)
        have hgr := grows 0 (by omega) (Value.ownBlock (.slice none 0 0))
        simp only [Nat.zero_add, List.nil_append, Array.empty_append] at hgr ⊢
        exact ⟨_, _, hr, hgr.1, hgr.2, .inr fun k hk => by simp only [Value.ownBlock, Option.some.injEq] at hk; omega, fun _ => (below_drew w).trans (below_alloc w.drew _)⟩
    · by_cases hroom : n + m ≤ cap
      · have hfit : n * i.size + news.length ≤ cur.size := by rw [hl, hcs, ← Nat.add_mul]; exact Nat.mul_le_mul_right _ hroom
        have hr := run_append_room (P := P) w t ty e i ht hi g n cap cur hg a m c news hl hc' h1 hroom hfit
        refine ⟨_, _, hr, ⟨hlen, .inr ⟨g, cap, _, rfl, hbg, setRow_heap w g cur _ e _ hg, hroom, hcm, ?_, ?_⟩⟩, ⟨rfl, rfl, rfl, by simp, fun k _ hk => setRow_other w g k _ (fun e => hk (by simp [Value.ownBlock, e]))⟩, .inl rfl, ?_⟩
        · rw [List.size_toArray, List.length_append, List.length_append, List.length_take, List.length_drop, Array.length_toList]
          omega
        · rw [htake, ← hlen]
          exact List.take_left
        · rintro ⟨ao, e⟩
          simp only [Value.slice.injEq] at e
          have hm : m = 0 := by omega
          subst hm
          have hn : news = [] := List.eq_nil_of_length_eq_zero (by simpa using hl)
          subst hn
          rw [List.append_nil, List.length_nil, Nat.add_zero, List.take_append_drop, Array.toArray_toList, setRow_self w g cur _ (0, 0) hg]
          exact Below.refl _ _
      · have hold : ∀ j u, xs[j]? = some u → w.cell? ((⟨g, 0, none⟩ : Addr).add j) = some u := hown.cells (g := g) rfl
        have hr := run_append_grow (P := P) w t ty e i z ht hi hz ⟨g, 0, none⟩ n cap xs hown.1 hold a m c news hl hc' (by omega) (by omega) (growslice_fits (by omega) hbytes)
        have hgr := grows cap (by omega) (Value.ownBlock (.slice (some ⟨g, 0, none⟩) n cap))
        exact ⟨_, _, hr, hgr.1, hgr.2, .inr fun k hk => by simp only [Value.ownBlock, Option.some.injEq] at hk; omega, fun _ => (below_drew w).trans (below_alloc w.drew _)⟩
theorem row_shape {w : World} {base : Nat} {e : TypeId} {sz n : Nat} {v : Value} {xs : List Value} (h : w.ownsRow base e sz v n xs) : ∃ ao cap, v = .slice ao n cap := by
  rcases h.2 with ⟨rfl, rfl⟩ | ⟨g, cap, cur, rfl, _⟩
  · exact ⟨_, _, rfl⟩
  · exact ⟨_, _, rfl⟩
/-- What the table says of an element type. -/
def Elem (P : Program) (t e : TypeId) (sz bytes : Nat) : Prop :=
  P.underlying t = some (.slice e) ∧ 0 < sz ∧ 0 < bytes ∧ ∃ i z, P.info? e = some i ∧ i.zero = some z ∧ i.size = sz ∧ i.bytes = bytes ∧ z.cells.size = sz
theorem Elem.mk' {t e : TypeId} {sz bytes : Nat} (z : Value) (ht : P.underlying t = some (.slice e)) (h : (P.info? e).map (fun i => (i.zero, i.size, i.bytes)) = some (some z, sz, bytes)) (hz : z.cells.size = sz) (h0 : 0 < sz) (h1 : 0 < bytes) : Elem P t e sz bytes := by
  obtain ⟨i, hi, a, b, c⟩ := info_parts h
  exact ⟨ht, h0, h1, i, z, hi, a, b, c, hz⟩
theorem ex_append {w w0 : World} {S : List Nat} {bs : List (Nat × Obj)} {rows : List Row} {t e ty : TypeId} {sz bytes : Nat} (hE : Elem P t e sz bytes) {v x : Value} {n m : Nat} {xs news : List Value}
    (hH : Holds w0 S bs (⟨v, e, sz, n, xs⟩ :: rows) w) (hx : Sl w x sz m news) (h1 : ∀ u ∈ news, u.oneCell' = true)
    (hb : (n + m) * bytes ≤ 140737488355328)
    {ρ : Operand → Value} {dst : Option Tmp} {s y : Operand} {pos : String} {after : Array Edge} {guard : Option (Nat × Bool)} (hs : ρ s = v) (hy : ρ y = x) :
    ∃ v' w', (execOp ρ { dst := dst, op := .call { callee := .builtin .append, args := #[s, y], argTypes := #[t, t] }, type := ty, pos := pos, after := after, guard := guard }).run P w = .ok (.value v') w' ∧
      Holds w0 S bs (⟨v', e, sz, n + m, xs ++ news⟩ :: rows) w' := by
  obtain ⟨ht, hsz, hb1, i, z, hi, hz, hsize, hby, hzs⟩ := hE
  have hb2 : (n + m) * 1 ≤ (n + m) * bytes := Nat.mul_le_mul_left _ hb1
  obtain ⟨v', w', hr, h2, h3, h4, _⟩ := run_append_row (P := P) t ty e i z sz bytes ht hi hz hsize hby hzs hsz (hH.row _ (List.mem_cons_self)) hx h1 (by unfold maxLen; simp only; omega) hb hH.size
  refine ⟨v', w', ?_, hH.grownRow h3 h4 h2⟩
  rw [BigFrame.execOp_builtin, BigFrame.builtin_append]
  simp only [Sem.run_bind, List.map_toArray, List.map_cons, List.map_nil, hs, hy, hr, Result.andThen_ok, Sem.run_pure]
theorem wpList_append {w w0 : World} {S : List Nat} {bs : List (Nat × Obj)} {rows : List Row} {t e ty : TypeId} {sz bytes : Nat} (hE : Elem P t e sz bytes) {v x : Value} {n m : Nat} {xs news : List Value}
    (hH : Holds w0 S bs (⟨v, e, sz, n, xs⟩ :: rows) w) (hx : Sl w x sz m news) (h1 : ∀ u ∈ news, u.oneCell' = true)
    (hb : (n + m) * bytes ≤ 140737488355328)
    {ops : Array Oper} {rest : List Oper} {a : Act} {Q : Exit → Act → World → Prop} {dst : Option Tmp} {s y : Operand} {pos : String} {after : Array Edge} {guard : Option (Nat × Bool)} (hs : a.eval s = v) (hy : a.eval y = x)
    (hg : Region.wanted { dst := dst, op := .call { callee := .builtin .append, args := #[s, y], argTypes := #[t, t] }, type := ty, pos := pos, after := after, guard := guard } (yielded ops a.tmps) = true)
    (h : ∀ ao cap w', Holds w0 S bs (⟨.slice ao (n + m) cap, e, sz, n + m, xs ++ news⟩ :: rows) w' → wpList P ops Q rest (a.put dst (.slice ao (n + m) cap)) w') :
    wpList P ops Q ({ dst := dst, op := .call { callee := .builtin .append, args := #[s, y], argTypes := #[t, t] }, type := ty, pos := pos, after := after, guard := guard } :: rest) a w := by
  obtain ⟨v', w', hr, hH'⟩ := ex_append (P := P) (ρ := a.eval) (dst := dst) (pos := pos) (after := after) (guard := guard) (ty := ty) hE hH hx h1 hb hs hy
  have hsh : ∃ ao cap, v' = .slice ao (n + m) cap := row_shape (hH'.row _ List.mem_cons_self)
  obtain ⟨ao, cap, rfl⟩ := hsh
  exact wpList_ex hg hr (h ao cap w' hH')

/-! ### New blocks: a variable, a literal's row -/
theorem run_zeroValue {t : TypeId} {z : Value} (hz : (P.info? t).map (·.zero) = some (some z)) (w : World) : (zeroValue t).run P w = .ok z w := by
  simp only [zeroValue, typeInfo, Sem.run_bind, run_program, Result.andThen_ok]
  cases hh : P.info? t with
  | none => rw [hh] at hz; simp at hz
  | some i => rw [hh] at hz; simp only [Option.map_some, Option.some.injEq] at hz; simp [hz]
theorem run_sizeOf {t : TypeId} {sz : Nat} (hi : (P.info? t).map (·.size) = some sz) (w : World) : (sizeOf t).run P w = .ok sz w := by
  simp only [sizeOf, typeInfo, Sem.run_bind, run_program, Result.andThen_ok]
  cases hh : P.info? t with
  | none => rw [hh] at hi; simp at hi
  | some i => rw [hh] at hi; simp at hi; simp [hi]
theorem foldl_set (l : List Value) : ∀ (pre mid post : List Value) (k off : Nat), pre.length = off + k → mid.length = l.length →
    (l.zipIdx k).foldl (fun (cs : Array Value) (x : Value × Nat) => cs.setIfInBounds (off + x.2) x.1) (pre ++ mid ++ post).toArray = (pre ++ l ++ post).toArray := by
  induction l with
  | nil => intro pre mid post k off h1 h2; have : mid = [] := List.eq_nil_of_length_eq_zero (by simpa using h2); subst this; simp
  | cons c l ih =>
    intro pre mid post k off h1 h2
    match mid, h2 with
    | m :: mid, h2 =>
      rw [List.zipIdx_cons, List.foldl_cons]
      have e : (pre ++ m :: mid ++ post).toArray.setIfInBounds (off + k) c = ((pre ++ [c]) ++ mid ++ post).toArray := by
        rw [← h1]
        apply Array.ext'
        simp
      simp only [e]
      rw [ih (pre ++ [c]) mid post (k + 1) off (by simp; omega) (by simpa using h2)]
      simp
theorem fill_parts {size : Nat} (vs : List Value) (hv : ∀ v ∈ vs, v.cells.size = size) : ∀ (pre mid : List Value) (k : Nat), pre.length = k * size → mid.length = vs.length * size →
    Instr.fill (fun i => some (i * size, size)) (pre ++ mid).toArray ((vs.zipIdx k).map fun p => (p.2, p.1)) = some (pre ++ vs.flatMap (·.cells.toList)).toArray := by
  induction vs with
  | nil => intro pre mid k h1 h2; have : mid = [] := List.eq_nil_of_length_eq_zero (by simpa using h2); subst this; simp [Instr.fill]
  | cons v vs ih =>
    intro pre mid k h1 h2
    have hv0 := hv v (by simp)
    rw [List.zipIdx_cons, List.map_cons, Instr.fill]
    have hl : mid.length = size + vs.length * size := by rw [h2, List.length_cons, Nat.add_mul]; omega
    have hcond : (v.cells.size ≠ size || k * size + v.cells.size > (pre ++ mid).toArray.size) = false := by
      simp [hv0, h1]; omega
    simp only [hcond, Bool.false_eq_true, if_false]
    have e1 : v.cells.zipIdx.foldl (fun cs (x : Value × Nat) => cs.setIfInBounds (k * size + x.2) x.1) (pre ++ mid).toArray = (pre ++ v.cells.toList ++ mid.drop size).toArray := by
      have := foldl_set v.cells.toList pre (mid.take size) (mid.drop size) 0 (k * size) (by omega) (by simp [hv0]; omega)
      rw [List.append_assoc, List.take_append_drop] at this
      rw [← this, ← Array.foldl_toList, Array.toList_zipIdx]
    have e2 : (fun cs (x : Value × Nat) => match x with | (c, j) => Array.setIfInBounds cs (k * size + j) c) = (fun (cs : Array Value) (x : Value × Nat) => cs.setIfInBounds (k * size + x.2) x.1) := rfl
    rw [e2, e1, ih (fun u hu => hv u (List.mem_cons_of_mem _ hu)) (pre ++ v.cells.toList) (mid.drop size) (k + 1) (by simp [h1, hv0, Nat.add_mul]) (by simp; omega)]
    simp
theorem run_buildSlice {t e : TypeId} {sz bytes : Nat} (hE : Elem P t e sz bytes) (vs : List Value) (hv : ∀ v ∈ vs, v.cells.size = sz) (hb : vs.length * sz ≤ 2 ^ 24) (w : World) :
    (Instr.buildSlice t vs.length ((vs.zipIdx 0).map fun p => (p.2, p.1)).toArray).run P w =
      .ok (.slice (some ⟨w.heap.size, 0, none⟩) vs.length vs.length) (w.alloc (.cells (vs.flatMap (·.cells.toList)).toArray e)) := by
  obtain ⟨ht, hsz, _, i, z, hi, hz, hsize, hby, hzs⟩ := hE
  have h1 := run_sizeOf (P := P) (t := e) (sz := sz) (by rw [hi]; simp [hsize]) w
  have h2 := run_zeroValue (P := P) (t := e) (z := z) (by rw [hi]; simp [hz]) w
  have hcond : ¬ (vs.length * sz > 2 ^ 24) := by omega
  have hf : ∀ A : Array Value, A.size = vs.length * sz → Instr.fill (fun i => some (i * sz, sz)) A ((vs.zipIdx 0).map fun p => (p.2, p.1)) = some (vs.flatMap (·.cells.toList)).toArray := fun A hA => by
    have := fill_parts vs hv [] A.toList 0 (by simp) (by simpa using hA)
    simpa using this
  simp only [Instr.buildSlice, Sem.run_bind, run_underlying ht, Result.andThen_ok, h1, Sem.run_ite, hcond, if_false, Sem.run_pure]
  by_cases h0 : vs.length * sz = 0
  · simp only [h0, if_true, Result.andThen_ok, Array.range_zero', Sem.run_pure]
    rw [hf _ (by simp [h0])]
    simp [newRow]
  · simp only [h0, if_false, Result.andThen_ok, Sem.run_bind, h2, Sem.run_pure]
    rw [hf _ (by simp)]
    simp [newRow]
section
variable {w w0 : World} {S : List Nat} {bs bs' : List (Nat × Obj)} {rows : List Row} {ops : Array Oper} {rest : List Oper} {a : Act} {Q : Exit → Act → World → Prop} {dst : Option Tmp} {ty : TypeId} {pos : String} {after : Array Edge} {guard : Option (Nat × Bool)}
theorem wpList_alloc {e : TypeId} {z : Value} (hz : (P.info? e).map (·.zero) = some (some z)) (hH : Holds w0 S bs rows w)
    (hg : Region.wanted { dst := dst, op := .alloc e, type := ty, pos := pos, after := after, guard := guard } (yielded ops a.tmps) = true)
    (h : ∀ g w', Holds w0 S ((g, .cells z.cells e) :: bs) rows w' → wpList P ops Q rest (a.put dst (.pointer (some ⟨g, 0, none⟩))) w') :
    wpList P ops Q ({ dst := dst, op := .alloc e, type := ty, pos := pos, after := after, guard := guard } :: rest) a w := by
  refine wpList_ex hg (v := .pointer (some ⟨w.heap.size, 0, none⟩)) (w' := w.alloc (.cells z.cells e)) ?_ (h _ _ (hH.alloc _))
  simp only [execOp, Instr.alloc, Sem.run_bind, run_zeroValue hz, Result.andThen_ok, newVar, newRow, run_newObj, Sem.run_pure]
  rfl
theorem wpList_box {e : TypeId} {x : Operand} {v : Value} (hx : a.eval x = v) (hH : Holds w0 S bs rows w)
    (hg : Region.wanted { dst := dst, op := .box e x, type := ty, pos := pos, after := after, guard := guard } (yielded ops a.tmps) = true)
    (h : ∀ g w', Holds w0 S ((g, .cells v.cells e) :: bs) rows w' → wpList P ops Q rest (a.put dst (.pointer (some ⟨g, 0, none⟩))) w') :
    wpList P ops Q ({ dst := dst, op := .box e x, type := ty, pos := pos, after := after, guard := guard } :: rest) a w := by
  refine wpList_ex hg (v := .pointer (some ⟨w.heap.size, 0, none⟩)) (w' := w.alloc (.cells v.cells e)) ?_ (h _ _ (hH.alloc _))
  simp only [execOp, Instr.box, Sem.run_bind, Result.andThen_ok, newVar, newRow, run_newObj, Sem.run_pure, hx]
  rfl
/-- Block g is among the call's own; o is what it holds. -/
inductive Own : List (Nat × Obj) → Nat → Obj → Prop
  | here {g o l} : Own ((g, o) :: l) g o
  | there {g o p l} : Own l g o → Own (p :: l) g o
inductive Turn : List (Nat × Obj) → Nat → Obj → Obj → List (Nat × Obj) → Prop
  | here {g o o' l} : Turn ((g, o) :: l) g o o' ((g, o') :: l)
  | there {g o o' p l l'} : Turn l g o o' l' → Turn (p :: l) g o o' (p :: l')
theorem Own.mem {bs : List (Nat × Obj)} {g : Nat} {o : Obj} (h : Own bs g o) : (g, o) ∈ bs := by
  induction h with
  | here => exact List.mem_cons_self
  | there _ ih => exact List.mem_cons_of_mem _ ih
theorem Turn.split {bs bs' : List (Nat × Obj)} {g : Nat} {o o' : Obj} (h : Turn bs g o o' bs') : ∃ pre post, bs = pre ++ (g, o) :: post ∧ bs' = pre ++ (g, o') :: post := by
  induction h with
  | @here g o o' l => exact ⟨[], l, rfl, rfl⟩
  | @there g o o' p l l' _ ih => obtain ⟨pre, post, rfl, rfl⟩ := ih; exact ⟨p :: pre, post, rfl, rfl⟩
theorem Holds.at (h : Holds w0 S bs rows w) {g : Nat} {o : Obj} (ho : Own bs g o) : w.heap[g]? = some o := h.blk _ ho.mem
theorem Holds.turn (h : Holds w0 S bs rows w) {g : Nat} {o o' : Obj} (ht : Turn bs g o o' bs') {w' : World}
    (hw : w'.heap[g]? = some o') (hos : w'.os = w.os) (hta : w'.tape = w.tape) (hout : w'.output = w.output) (hsz : w.heap.size ≤ w'.heap.size)
    (hk : ∀ k, k < w.heap.size → k ≠ g → w'.heap[k]? = w.heap[k]?) : Holds w0 S bs' rows w' := by
  obtain ⟨pre, post, rfl, rfl⟩ := ht.split
  exact h.set rfl hw hos hta hout hsz hk
theorem Turn.own {g : Nat} {o o' : Obj} (h : Turn bs g o o' bs') : Own bs g o := by
  induction h with
  | here => exact .here
  | there _ ih => exact .there ih
theorem cell_own (h : Holds w0 S bs rows w) {g : Nat} {cs : Array Value} {e : TypeId} {fr : Nat × Nat} (ho : Own bs g (.cells cs e fr)) (j : Nat) : w.cell? ⟨g, j, none⟩ = cs[j]? := by
  simp [World.cell?, h.at ho]
/-- A whole variable of the call's own is read. -/
theorem ex_load_own {ρ : Operand → Value} {t : TypeId} {x : Operand} {g : Nat} (hx : ρ x = .pointer (some ⟨g, 0, none⟩))
    {d : TypeDesc} (hu : P.underlying t = some d) (hd : aggD d = true) {sz : Nat}
    (hi : (P.info? t).map (·.size) = some sz) {cs : Array Value} {e : TypeId} {fr : Nat × Nat} (hH : Holds w0 S bs rows w) (ho : Own bs g (.cells cs e fr)) (hl : cs.size = sz) :
    (execOp ρ { dst := dst, op := .load t x, type := ty, pos := pos, after := after, guard := guard }).run P w = .ok (.value (.agg cs)) w := by
  have := ex_load_agg (P := P) (ρ := ρ) (dst := dst) (ty := ty) (pos := pos) (after := after) (guard := guard) hx hu hd hi (cs := cs.toList) (by simpa using hl) (w := w)
    (fun j u hu' => by
      have hadd : (⟨g, 0, none⟩ : Addr).add j = ⟨g, j, none⟩ := by unfold Addr.add; split <;> simp_all
      rw [hadd, cell_own hH ho j]; simpa using hu')
  simpa using this
/-- A whole variable of the call's own is written. -/
theorem wpList_store_own {t : TypeId} {x y : Operand} {g : Nat} {v : Value} {sz : Nat} {cs : Array Value} {e : TypeId}
    (hx : a.eval x = .pointer (some ⟨g, 0, none⟩)) (hy : a.eval y = v) (hi : (P.info? t).map (·.size) = some sz)
    (hH : Holds w0 S bs rows w) (ht : Turn bs g (.cells cs e) (.cells v.cells e) bs') (hv : v.cells.size = sz) (h1 : ∀ u ∈ v.cells.toList, u.oneCell' = true) (hc : cs.size = sz)
    (hg : Region.wanted { dst := dst, op := .store t x y, type := ty, pos := pos, after := after, guard := guard } (yielded ops a.tmps) = true)
    (h : ∀ w', Holds w0 S bs' rows w' → wpList P ops Q rest (a.put dst undef) w') :
    wpList P ops Q ({ dst := dst, op := .store t x y, type := ty, pos := pos, after := after, guard := guard } :: rest) a w := by
  have hblk := hH.at ht.own
  refine wpList_exskip hg (w' := w.setRow g v.cells) ?_ (h _ (hH.turn ht (setRow_heap w g cs v.cells e (0, 0) hblk) rfl rfl rfl (by simp) fun k _ hk => setRow_other w g k _ hk))
  have hs := run_storeCells_at P g 0 e v.cells.toList 0 cs w hblk (by simp; omega) h1
  have hall : cs.toList.drop (0 + 0 + v.cells.toList.length) = [] := List.drop_eq_nil_of_le (by simp; omega)
  rw [hall] at hs
  simp only [Nat.zero_add, List.take_zero, List.nil_append, List.append_nil, Array.toArray_toList] at hs
  simp only [execOp, hx, hy, Instr.storeAt, Instr.sureAddr, storeVar, Sem.run_bind, Sem.run_pure, Result.andThen_ok, run_sizeOf hi, hv, ne_eq, not_true_eq_false, if_false, hs]
theorem wpList_buildSlice {t e : TypeId} {sz bytes : Nat} (hE : Elem P t e sz bytes) (vs : List Value) (hv : ∀ v ∈ vs, v.cells.size = sz) (hb : vs.length * sz ≤ 2 ^ 24) {parts : Array (Nat × Operand)} {n : Nat}
    (hn : n = vs.length) (hp : (parts.toList.map fun p => (p.1, a.eval p.2)) = (vs.zipIdx 0).map fun p => (p.2, p.1)) (hH : Holds w0 S bs rows w) {xs : List Value} (hxs : xs = vs.flatMap (·.cells.toList))
    (hg : Region.wanted { dst := dst, op := .buildSlice t n parts, type := ty, pos := pos, after := after, guard := guard } (yielded ops a.tmps) = true)
    (h : ∀ g w', Holds w0 S bs (⟨.slice (some ⟨g, 0, none⟩) n n, e, sz, n, xs⟩ :: rows) w' → wpList P ops Q rest (a.put dst (.slice (some ⟨g, 0, none⟩) n n)) w') :
    wpList P ops Q ({ dst := dst, op := .buildSlice t n parts, type := ty, pos := pos, after := after, guard := guard } :: rest) a w := by
  subst hn hxs
  have hlen : ∀ l : List Value, (∀ v ∈ l, v.cells.size = sz) → (l.flatMap (·.cells.toList)).length = l.length * sz := by
    intro l hl
    induction l with
    | nil => simp
    | cons x l ih =>
      have h1 := hl x (by simp)
      have h2 := ih fun v hv => hl v (List.mem_cons_of_mem _ hv)
      rw [List.flatMap_cons, List.length_append, h2, Array.length_toList, h1, List.length_cons, Nat.add_mul]
      omega
  have hl := hlen vs hv
  have hb2 : vs.length * 1 ≤ vs.length * sz := Nat.mul_le_mul_left _ hE.2.1
  have hrow : (w.alloc (.cells (vs.flatMap (·.cells.toList)).toArray e)).ownsRow w.heap.size e sz (.slice (some ⟨w.heap.size, 0, none⟩) vs.length vs.length) vs.length (vs.flatMap (·.cells.toList)) :=
    ⟨hl, .inr ⟨w.heap.size, vs.length, _, rfl, Nat.le_refl _, heap_alloc_new w _, Nat.le_refl _, by unfold maxLen; omega, by simpa using hl, by rw [← hl]; exact List.take_length⟩⟩
  refine wpList_ex hg ?_ (h _ _ (hH.addRow (below_alloc w _) hrow))
  have := run_buildSlice (P := P) hE vs hv hb w
  simp only [execOp, Sem.run_bind]
  rw [show (parts.map fun x => match x with | (i, y) => (i, a.eval y)) = (parts.toList.map fun p => (p.1, a.eval p.2)).toArray by rw [← Array.toList_map, Array.toArray_toList], hp, this]
  rfl
theorem wpList_buildArr {t e : TypeId} {sz bytes : Nat} (hE : Elem P t e sz bytes) (l : List (Arr sz)) (hH : Holds w0 S bs rows w) {parts : Array (Nat × Operand)} {n : Nat}
    (hn : n = l.length) (hp : (parts.toList.map fun p => (p.1, a.eval p.2)) = ((l.map Arr.val).zipIdx 0).map fun p => (p.2, p.1)) (hb : n * sz ≤ 16777216)
    (hg : Region.wanted { dst := dst, op := .buildSlice t n parts, type := ty, pos := pos, after := after, guard := guard } (yielded ops a.tmps) = true)
    (h : ∀ g w', Holds w0 S bs (⟨.slice (some ⟨g, 0, none⟩) n n, e, sz, n, flat l⟩ :: rows) w' → wpList P ops Q rest (a.put dst (.slice (some ⟨g, 0, none⟩) n n)) w') :
    wpList P ops Q ({ dst := dst, op := .buildSlice t n parts, type := ty, pos := pos, after := after, guard := guard } :: rest) a w := by
  refine wpList_buildSlice hE (l.map Arr.val) ?_ (by simpa [← hn] using hb) (by simpa using hn) hp hH ?_ hg h
  · intro v hv
    obtain ⟨x, _, rfl⟩ := List.mem_map.1 hv
    simp [Arr.val, Value.cells, Arr.len]
  · rw [List.flatMap_map]; rfl
theorem wpList_build {t : TypeId} {parts : Array (Nat × Operand)} {v : Value} (hb : ∀ w, (Instr.build t (parts.toList.map fun p => (p.1, a.eval p.2)).toArray).run P w = .ok v w)
    (hg : Region.wanted { dst := dst, op := .build t parts, type := ty, pos := pos, after := after, guard := guard } (yielded ops a.tmps) = true)
    (h : wpList P ops Q rest (a.put dst v) w) : wpList P ops Q ({ dst := dst, op := .build t parts, type := ty, pos := pos, after := after, guard := guard } :: rest) a w :=
  wpList_ex hg (by
    simp only [execOp, Sem.run_bind]
    rw [show (parts.map fun x => match x with | (i, y) => (i, a.eval y)) = (parts.toList.map fun p => (p.1, a.eval p.2)).toArray by rw [← Array.toList_map, Array.toArray_toList], hb]
    rfl) h
/-- t is a struct's or an array's type of sz cells. -/
def AggT (P : Program) (t : TypeId) (sz : Nat) : Prop := ∃ d, P.underlying t = some d ∧ aggD d = true ∧ (P.info? t).map (·.size) = some sz
def OneT (P : Program) (t : TypeId) : Prop := ∃ d, P.underlying t = some d ∧ aggD d = false
/-- t is an array's type of n integers. -/
def ArrT (P : Program) (t : TypeId) (n : Nat) : Prop := ∃ e k, P.underlying t = some (.array n e) ∧ P.underlying e = some (.int k) ∧ (P.info? e).map (·.size) = some 1 ∧ P.eqGuardType P.depth t = false
theorem wpList_load_agg {t : TypeId} {sz : Nat} (hA : AggT P t sz) {cs : List Value} (hl : cs.length = sz) {ad : Addr} (hc : ∀ j u, cs[j]? = some u → w.cell? (ad.add j) = some u) {x : Operand}
    (hx : a.eval x = .pointer (some ad))
    (hg : Region.wanted { dst := dst, op := .load t x, type := ty, pos := pos, after := after, guard := guard } (yielded ops a.tmps) = true)
    (h : wpList P ops Q rest (a.put dst (.agg cs.toArray)) w) : wpList P ops Q ({ dst := dst, op := .load t x, type := ty, pos := pos, after := after, guard := guard } :: rest) a w := by
  obtain ⟨d, hu, hd, hi⟩ := hA
  exact wpList_ex hg (ex_load_agg hx hu hd hi hl hc) h
theorem wpList_load_own {t : TypeId} {sz : Nat} (hA : AggT P t sz) (hH : Holds w0 S bs rows w) {x : Operand} {g : Nat} {cs : Array Value} {e : TypeId} {fr : Nat × Nat}
    (hx : a.eval x = .pointer (some ⟨g, 0, none⟩)) (ho : Own bs g (.cells cs e fr)) (hl : cs.size = sz)
    (hg : Region.wanted { dst := dst, op := .load t x, type := ty, pos := pos, after := after, guard := guard } (yielded ops a.tmps) = true)
    (h : wpList P ops Q rest (a.put dst (.agg cs)) w) : wpList P ops Q ({ dst := dst, op := .load t x, type := ty, pos := pos, after := after, guard := guard } :: rest) a w := by
  obtain ⟨d, hu, hd, hi⟩ := hA
  exact wpList_ex hg (ex_load_own hx hu hd hi hH ho hl) h
/-- One cell of a block of the call's own. -/
theorem wpList_load_cell {t : TypeId} (hA : OneT P t) (hH : Holds w0 S bs rows w) {x : Operand} {g j : Nat} {cs : Array Value} {e : TypeId} {fr : Nat × Nat} {v : Value}
    (hx : a.eval x = .pointer (some ⟨g, j, none⟩)) (ho : Own bs g (.cells cs e fr)) (hv : cs[j]? = some v)
    (hg : Region.wanted { dst := dst, op := .load t x, type := ty, pos := pos, after := after, guard := guard } (yielded ops a.tmps) = true)
    (h : wpList P ops Q rest (a.put dst v) w) : wpList P ops Q ({ dst := dst, op := .load t x, type := ty, pos := pos, after := after, guard := guard } :: rest) a w := by
  obtain ⟨d, hu, hd⟩ := hA
  exact wpList_ex hg (ex_load_one hx hu hd ((cell_own hH ho j).trans hv)) h
theorem wpList_eql_arr {n : Nat} {t : TypeId} (hA : ArrT P t n) {x y : Operand} {yt : TypeId} {p q : Arr n} (hx : a.eval x = p.val) (hy : a.eval y = q.val)
    (hg : Region.wanted { dst := dst, op := .binOp .eql t x y yt, type := ty, pos := pos, after := after, guard := guard } (yielded ops a.tmps) = true)
    (h : wpList P ops Q rest (a.put dst (.bool (p == q))) w) : wpList P ops Q ({ dst := dst, op := .binOp .eql t x y yt, type := ty, pos := pos, after := after, guard := guard } :: rest) a w := by
  obtain ⟨e, k, ht, he, hs, hgt⟩ := hA
  exact wpList_ex hg (ex_eql_arr ht he hs hgt hx hy w) h
theorem wpList_neq_arr {n : Nat} {t : TypeId} (hA : ArrT P t n) {x y : Operand} {yt : TypeId} {p q : Arr n} (hx : a.eval x = p.val) (hy : a.eval y = q.val)
    (hg : Region.wanted { dst := dst, op := .binOp .neq t x y yt, type := ty, pos := pos, after := after, guard := guard } (yielded ops a.tmps) = true)
    (h : wpList P ops Q rest (a.put dst (.bool (!(p == q)))) w) : wpList P ops Q ({ dst := dst, op := .binOp .neq t x y yt, type := ty, pos := pos, after := after, guard := guard } :: rest) a w := by
  obtain ⟨e, k, ht, he, hs, hgt⟩ := hA
  exact wpList_ex hg (ex_neq_arr ht he hs hgt hx hy w) h
/-! ### Variables of the call's own that hold an array of bytes -/
theorem arr_one {n : Nat} (x : Arr n) : ∀ u ∈ x.val.cells.toList, u.oneCell' = true := by
  intro u hu; exact cells_one x u (by simpa [Arr.val, Value.cells] using hu)
theorem arr_size {n : Nat} (x : Arr n) : x.val.cells.size = n := by simp [Arr.val, Value.cells, Arr.len]
/-- A variable that holds the array x. -/
def objA {n : Nat} (x : Arr n) (e : TypeId) : Obj := .cells x.cells.toArray e
theorem wpList_allocA {n : Nat} {e : TypeId} (hz : (P.info? e).map (·.zero) = some (some (Arr.zero n).val)) (hH : Holds w0 S bs rows w)
    (hg : Region.wanted { dst := dst, op := .alloc e, type := ty, pos := pos, after := after, guard := guard } (yielded ops a.tmps) = true)
    (h : ∀ g w', Holds w0 S ((g, objA (Arr.zero n) e) :: bs) rows w' → wpList P ops Q rest (a.put dst (.pointer (some ⟨g, 0, none⟩))) w') :
    wpList P ops Q ({ dst := dst, op := .alloc e, type := ty, pos := pos, after := after, guard := guard } :: rest) a w := wpList_alloc hz hH hg h
theorem wpList_boxA {n : Nat} {e : TypeId} (hH : Holds w0 S bs rows w) {x : Operand} {v : Arr n} (hx : a.eval x = v.val)
    (hg : Region.wanted { dst := dst, op := .box e x, type := ty, pos := pos, after := after, guard := guard } (yielded ops a.tmps) = true)
    (h : ∀ g w', Holds w0 S ((g, objA v e) :: bs) rows w' → wpList P ops Q rest (a.put dst (.pointer (some ⟨g, 0, none⟩))) w') :
    wpList P ops Q ({ dst := dst, op := .box e x, type := ty, pos := pos, after := after, guard := guard } :: rest) a w := wpList_box hx hH hg h
theorem wpList_loadA {n : Nat} {t : TypeId} (hA : AggT P t n) (hH : Holds w0 S bs rows w) {x : Operand} {g : Nat} {v : Arr n} {e : TypeId}
    (hx : a.eval x = .pointer (some ⟨g, 0, none⟩)) (ho : Own bs g (objA v e))
    (hg : Region.wanted { dst := dst, op := .load t x, type := ty, pos := pos, after := after, guard := guard } (yielded ops a.tmps) = true)
    (h : wpList P ops Q rest (a.put dst v.val) w) : wpList P ops Q ({ dst := dst, op := .load t x, type := ty, pos := pos, after := after, guard := guard } :: rest) a w :=
  wpList_load_own hA hH hx ho (by simp [Arr.len]) hg h
theorem wpList_storeA {n : Nat} {t : TypeId} (hi : (P.info? t).map (·.size) = some n) (hH : Holds w0 S bs rows w) {x y : Operand} {g : Nat} {u v : Arr n} {e : TypeId}
    (hx : a.eval x = .pointer (some ⟨g, 0, none⟩)) (hy : a.eval y = v.val) (ht : Turn bs g (objA u e) (objA v e) bs')
    (hg : Region.wanted { dst := dst, op := .store t x y, type := ty, pos := pos, after := after, guard := guard } (yielded ops a.tmps) = true)
    (h : ∀ w', Holds w0 S bs' rows w' → wpList P ops Q rest (a.put dst undef) w') :
    wpList P ops Q ({ dst := dst, op := .store t x y, type := ty, pos := pos, after := after, guard := guard } :: rest) a w :=
  wpList_store_own hx hy hi hH ht (arr_size v) (arr_one v) (by simp [Arr.len]) hg h
theorem ex_loadA {ρ : Operand → Value} {n : Nat} {t : TypeId} (hA : AggT P t n) (hH : Holds w0 S bs rows w) {x : Operand} {g : Nat} {v : Arr n} {e : TypeId}
    (hx : ρ x = .pointer (some ⟨g, 0, none⟩)) (ho : Own bs g (objA v e)) :
    (execOp ρ { dst := dst, op := .load t x, type := ty, pos := pos, after := after, guard := guard }).run P w = .ok (.value v.val) w := by
  obtain ⟨d, hu, hd, hi⟩ := hA
  exact ex_load_own hx hu hd hi hH ho (by simp [Arr.len])
/-! ### The same in a region that draws its order: what holds in every world in which the call owns bs and rows -/
theorem wp_region_holds {id : Nat} {l : List Oper} (hm : P.follows .mixedOrders = true) (hB : Region.lexB .any l.toArray = true) (hH : Holds w0 S bs rows w)
    (h : wpQuiet P l.toArray (fun w' => Holds w0 S bs rows w') (fun a' => ∀ w', Holds w0 S bs rows w' → Q .normal a' w') l a) : (Code.region id l.toArray true).wp P Q a w :=
  wp_region_quiet (C := fun w' => Holds w0 S bs rows w') hm hB hH.drew (by simpa using h)
theorem wpQ_load_agg {C : World → Prop} {K : Act → Prop} {t : TypeId} {sz : Nat} (hA : AggT P t sz) {cs : List Value} (hl : cs.length = sz) {ad : Addr} (hc : ∀ w, C w → ∀ j u, cs[j]? = some u → w.cell? (ad.add j) = some u) {x : Operand}
    (hx : a.eval x = .pointer (some ad))
    (hg : Region.wanted { dst := dst, op := .load t x, type := ty, pos := pos, after := after, guard := guard } (yielded ops a.tmps) = true)
    (h : wpQuiet P ops C K rest (a.put dst (.agg cs.toArray))) : wpQuiet P ops C K ({ dst := dst, op := .load t x, type := ty, pos := pos, after := after, guard := guard } :: rest) a := by
  obtain ⟨d, hu, hd, hi⟩ := hA
  exact wpQuiet_ex hg (fun w hw => ex_load_agg hx hu hd hi hl (hc w hw)) h
theorem wpQ_load_own {K : Act → Prop} {t : TypeId} {sz : Nat} (hA : AggT P t sz) {x : Operand} {g : Nat} {cs : Array Value} {e : TypeId} {fr : Nat × Nat}
    (hx : a.eval x = .pointer (some ⟨g, 0, none⟩)) (ho : Own bs g (.cells cs e fr)) (hl : cs.size = sz)
    (hg : Region.wanted { dst := dst, op := .load t x, type := ty, pos := pos, after := after, guard := guard } (yielded ops a.tmps) = true)
    (h : wpQuiet P ops (fun w' => Holds w0 S bs rows w') K rest (a.put dst (.agg cs))) : wpQuiet P ops (fun w' => Holds w0 S bs rows w') K ({ dst := dst, op := .load t x, type := ty, pos := pos, after := after, guard := guard } :: rest) a := by
  obtain ⟨d, hu, hd, hi⟩ := hA
  exact wpQuiet_ex hg (fun w hw => ex_load_own hx hu hd hi hw ho hl) h
theorem wpQ_loadA {K : Act → Prop} {n : Nat} {t : TypeId} (hA : AggT P t n) {x : Operand} {g : Nat} {v : Arr n} {e : TypeId}
    (hx : a.eval x = .pointer (some ⟨g, 0, none⟩)) (ho : Own bs g (objA v e))
    (hg : Region.wanted { dst := dst, op := .load t x, type := ty, pos := pos, after := after, guard := guard } (yielded ops a.tmps) = true)
    (h : wpQuiet P ops (fun w' => Holds w0 S bs rows w') K rest (a.put dst v.val)) : wpQuiet P ops (fun w' => Holds w0 S bs rows w') K ({ dst := dst, op := .load t x, type := ty, pos := pos, after := after, guard := guard } :: rest) a :=
  wpQ_load_own hA hx ho (by simp [Arr.len]) hg h
theorem wpQ_load_cell {K : Act → Prop} {t : TypeId} (hA : OneT P t) {x : Operand} {g j : Nat} {cs : Array Value} {e : TypeId} {fr : Nat × Nat} {v : Value}
    (hx : a.eval x = .pointer (some ⟨g, j, none⟩)) (ho : Own bs g (.cells cs e fr)) (hv : cs[j]? = some v)
    (hg : Region.wanted { dst := dst, op := .load t x, type := ty, pos := pos, after := after, guard := guard } (yielded ops a.tmps) = true)
    (h : wpQuiet P ops (fun w' => Holds w0 S bs rows w') K rest (a.put dst v)) : wpQuiet P ops (fun w' => Holds w0 S bs rows w') K ({ dst := dst, op := .load t x, type := ty, pos := pos, after := after, guard := guard } :: rest) a := by
  obtain ⟨d, hu, hd⟩ := hA
  exact wpQuiet_ex hg (fun w hw => ex_load_one hx hu hd ((cell_own hw ho j).trans hv)) h
theorem wpQ_eql_arr {C : World → Prop} {K : Act → Prop} {n : Nat} {t : TypeId} (hA : ArrT P t n) {x y : Operand} {yt : TypeId} {p q : Arr n} (hx : a.eval x = p.val) (hy : a.eval y = q.val)
    (hg : Region.wanted { dst := dst, op := .binOp .eql t x y yt, type := ty, pos := pos, after := after, guard := guard } (yielded ops a.tmps) = true)
    (h : wpQuiet P ops C K rest (a.put dst (.bool (p == q)))) : wpQuiet P ops C K ({ dst := dst, op := .binOp .eql t x y yt, type := ty, pos := pos, after := after, guard := guard } :: rest) a := by
  obtain ⟨e, k, ht, he, hs, hgt⟩ := hA
  exact wpQuiet_ex hg (fun w _ => ex_eql_arr ht he hs hgt hx hy w) h
theorem wpQ_neq_arr {C : World → Prop} {K : Act → Prop} {n : Nat} {t : TypeId} (hA : ArrT P t n) {x y : Operand} {yt : TypeId} {p q : Arr n} (hx : a.eval x = p.val) (hy : a.eval y = q.val)
    (hg : Region.wanted { dst := dst, op := .binOp .neq t x y yt, type := ty, pos := pos, after := after, guard := guard } (yielded ops a.tmps) = true)
    (h : wpQuiet P ops C K rest (a.put dst (.bool (!(p == q))))) : wpQuiet P ops C K ({ dst := dst, op := .binOp .neq t x y yt, type := ty, pos := pos, after := after, guard := guard } :: rest) a := by
  obtain ⟨e, k, ht, he, hs, hgt⟩ := hA
  exact wpQuiet_ex hg (fun w _ => ex_neq_arr ht he hs hgt hx hy w) h
/-! ### Plain operations in such a region -/
section
variable {C : World → Prop} {K : Act → Prop}
theorem wpQ_move {x : Operand} {v : Value} (hx : a.eval x = v) (hg : Region.wanted { dst := dst, op := .move x, type := ty, pos := pos, after := after, guard := guard } (yielded ops a.tmps) = true)
    (h : wpQuiet P ops C K rest (a.put dst v)) : wpQuiet P ops C K ({ dst := dst, op := .move x, type := ty, pos := pos, after := after, guard := guard } :: rest) a :=
  wpQuiet_ex hg (fun w _ => by simp only [execOp, hx, Sem.run_pure]) h
theorem wpQ_assign {x : Operand} {v : Value} (hx : a.eval x = v) (hg : Region.wanted { dst := dst, op := .assign x, type := ty, pos := pos, after := after, guard := guard } (yielded ops a.tmps) = true)
    (h : wpQuiet P ops C K rest (a.put dst v)) : wpQuiet P ops C K ({ dst := dst, op := .assign x, type := ty, pos := pos, after := after, guard := guard } :: rest) a :=
  wpQuiet_ex hg (fun w _ => by simp only [execOp, hx, Sem.run_pure]) h
theorem wpQ_pick {c x y : Operand} {b : Bool} {v : Value} (hc : a.eval c = .bool b) (hv : (if b then a.eval x else a.eval y) = v) (hg : Region.wanted { dst := dst, op := .pick c x y, type := ty, pos := pos, after := after, guard := guard } (yielded ops a.tmps) = true)
    (h : wpQuiet P ops C K rest (a.put dst v)) : wpQuiet P ops C K ({ dst := dst, op := .pick c x y, type := ty, pos := pos, after := after, guard := guard } :: rest) a :=
  wpQuiet_ex hg (fun w _ => by simp only [execOp, hc, asBool, Sem.run_bind, Sem.run_pure, Result.andThen_ok, hv]) h
theorem wpQ_skip {o : Oper} (hg : Region.wanted o (yielded ops a.tmps) = false) (h : wpQuiet P ops C K rest (a.put o.dst undef)) : wpQuiet P ops C K (o :: rest) a := BigFrame.wpQuiet_skip hg h
theorem wpQ_index {t e : TypeId} {sz bytes : Nat} (hE : Elem P t e sz bytes) {x i : Operand} {ad : Addr} {n c j : Nat} {q : Int} {k : IntKind} (hx : a.eval x = .slice (some ad) n c) (hi : a.eval i = .int k q) (hq : q = (j : Int)) (hj : j < n)
    (hg : Region.wanted { dst := dst, op := .indexAddr t x i, type := ty, pos := pos, after := after, guard := guard } (yielded ops a.tmps) = true)
    (h : wpQuiet P ops C K rest (a.put dst (.pointer (some (ad.add (j * sz)))))) : wpQuiet P ops C K ({ dst := dst, op := .indexAddr t x i, type := ty, pos := pos, after := after, guard := guard } :: rest) a := by
  subst hq
  obtain ⟨ht, hsz, _, ii, z, hi', _, hsize, _, _⟩ := hE
  have h2 : ∀ w, (sizeOf e).run P w = .ok sz w := run_sizeOf (by rw [hi']; simp [hsize])
  refine wpQuiet_ex hg (fun w _ => ?_) h
  have hc : (0 : Int) ≤ (j : Int) ∧ (j : Int) < n := by omega
  simp only [execOp, hx, hi, Instr.indexAt, asIntOf, Sem.run_bind, Sem.run_pure, Result.andThen_ok, run_underlying ht, h2, hc, and_self, if_true, Int.toNat_natCast]
theorem wpQ_len {t : TypeId} {e : TypeId} (ht : P.underlying t = some (.slice e)) {x : Operand} {ao : Option Addr} {n c : Nat} (hx : a.eval x = .slice ao n c)
    (hg : Region.wanted { dst := dst, op := .call { callee := .builtin .len, args := #[x], argTypes := #[t] }, type := ty, pos := pos, after := after, guard := guard } (yielded ops a.tmps) = true)
    (h : wpQuiet P ops C K rest (a.put dst (.int .i64 n))) : wpQuiet P ops C K ({ dst := dst, op := .call { callee := .builtin .len, args := #[x], argTypes := #[t] }, type := ty, pos := pos, after := after, guard := guard } :: rest) a := by
  refine wpQuiet_ex hg (fun w _ => ?_) h
  rw [BigFrame.execOp_builtin, BigFrame.builtin_len]
  simp [hx, Builtin.len_, run_underlying ht, goInt]
/-- What a comparison of whole numbers says. -/
@[reducible] def cmpB (op : BinOp) (p q : Int) : Bool :=
  match op with | .eql => p == q | .neq => p != q | .lss => decide (p < q) | .leq => decide (p ≤ q) | .gtr => decide (p > q) | .geq => decide (p ≥ q) | _ => false
def isCmp : BinOp → Bool | .eql | .neq | .lss | .leq | .gtr | .geq => true | _ => false
theorem run_cmp {op : BinOp} (ho : isCmp op = true) (t : TypeId) (k : IntKind) (p q : Int) (w : World) : (binOp op t (.int k p) (.int k q)).run P w = .ok (.bool (cmpB op p q)) w := by
  cases op <;> simp [isCmp] at ho <;> simp [binOp, Op.intCmp, cmpB]
theorem wpQ_cmp {op : BinOp} {t yt : TypeId} {x y : Operand} {k : IntKind} {p q : Int} {b : Bool} (ho : isCmp op = true) (hx : a.eval x = .int k p) (hy : a.eval y = .int k q) (hb : cmpB op p q = b)
    (hg : Region.wanted { dst := dst, op := .binOp op t x y yt, type := ty, pos := pos, after := after, guard := guard } (yielded ops a.tmps) = true)
    (h : wpQuiet P ops C K rest (a.put dst (.bool b))) : wpQuiet P ops C K ({ dst := dst, op := .binOp op t x y yt, type := ty, pos := pos, after := after, guard := guard } :: rest) a := by
  refine wpQuiet_ex hg (fun w _ => ?_) h
  simp only [execOp, hx, hy, Sem.run_bind, eqGuard_at_int, Sem.run_pure, Result.andThen_ok, run_cmp ho, hb]
def isArith : BinOp → Bool | .add | .sub | .mul => true | _ => false
@[reducible] def arithI (op : BinOp) (p q : Int) : Int := match op with | .add => p + q | .sub => p - q | .mul => p * q | _ => 0
theorem run_arith {op : BinOp} (ho : isArith op = true) (t : TypeId) (k : IntKind) (p q : Int) (w : World) : (binOp op t (.int k p) (.int k q)).run P w = .ok (.int k (k.wrap (arithI op p q))) w := by
  cases op <;> simp [isArith] at ho <;> simp [binOp, Op.intArith, arithI]
theorem wpQ_arith {op : BinOp} {t yt : TypeId} {x y : Operand} {k : IntKind} {p q r : Int} (ho : isArith op = true) (hx : a.eval x = .int k p) (hy : a.eval y = .int k q) (hr : k.wrap (arithI op p q) = r)
    (hg : Region.wanted { dst := dst, op := .binOp op t x y yt, type := ty, pos := pos, after := after, guard := guard } (yielded ops a.tmps) = true)
    (h : wpQuiet P ops C K rest (a.put dst (.int k r))) : wpQuiet P ops C K ({ dst := dst, op := .binOp op t x y yt, type := ty, pos := pos, after := after, guard := guard } :: rest) a := by
  refine wpQuiet_ex hg (fun w _ => ?_) h
  have he : ∀ u v, eqGuard op t x y u v = pure () := by intro u v; cases op <;> simp [isArith] at ho <;> rfl
  simp only [execOp, hx, hy, Sem.run_bind, he, Sem.run_pure, Result.andThen_ok, run_arith ho, hr]
theorem wpQ_not {t : TypeId} {x : Operand} {b : Bool} (hx : a.eval x = .bool b) (hg : Region.wanted { dst := dst, op := .unOp .not t x, type := ty, pos := pos, after := after, guard := guard } (yielded ops a.tmps) = true)
    (h : wpQuiet P ops C K rest (a.put dst (.bool !b))) : wpQuiet P ops C K ({ dst := dst, op := .unOp .not t x, type := ty, pos := pos, after := after, guard := guard } :: rest) a :=
  wpQuiet_ex hg (fun w _ => by simp [execOp, hx, Op.unary]) h
/-- A function of this program that has a body. -/
def Body (P : Program) (f : FuncId) : Prop := ∃ fn c, P.funcs[f]? = some fn ∧ fn.body = some c ∧ (fn.name == "runtime.NumGoroutine") = false
theorem ex_call {f : FuncId} (hf : Body P f) {xs : Array Operand} {ats : Array TypeId} {args : Array Value} (ha : xs.map a.eval = args) (w : World) :
    (execOp a.eval { dst := dst, op := .call { callee := .value (.func f), args := xs, argTypes := ats }, type := ty, pos := pos, after := after, guard := guard }).run P w = .ok (.enter f args) w := by
  obtain ⟨fn, c, h1, h2, h3⟩ := hf
  rw [execOp_call_go]
  have h3' : ¬ fn.name = "runtime.NumGoroutine" := by simpa using h3
  simp [callFunc, h1, h2, h3', ha]
theorem wpQ_call {f : FuncId} (hf : Body P f) {xs : Array Operand} {ats : Array TypeId} {args : Array Value} {v : Value} (ha : (xs.toList.map a.eval).toArray = args)
    (hc : ∀ w, C w → Calls P f args w fun e w' => e = .returned v ∧ C w')
    (hg : Region.wanted { dst := dst, op := .call { callee := .value (.func f), args := xs, argTypes := ats }, type := ty, pos := pos, after := after, guard := guard } (yielded ops a.tmps) = true)
    (h : wpQuiet P ops C K rest (a.put dst v)) : wpQuiet P ops C K ({ dst := dst, op := .call { callee := .value (.func f), args := xs, argTypes := ats }, type := ty, pos := pos, after := after, guard := guard } :: rest) a :=
  wpQuiet_call hg (fun w => ex_call hf (by rw [← ha, ← Array.toList_map, Array.toArray_toList]) w) hc h
end
end
end
end Go.Proofs.Ytohdkmgnnncpkaa
