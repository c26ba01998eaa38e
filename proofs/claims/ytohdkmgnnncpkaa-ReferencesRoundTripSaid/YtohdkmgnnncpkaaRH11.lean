/- Bytes divided, bytes as numbers, strings cut. Over any program. No condition. -/
import Derived.Test.YtohdkmgnnncpkaaRH9
set_option linter.unusedSimpArgs false
set_option linter.unusedVariables false
namespace Go.Proofs.Ytohdkmgnnncpkaa
open Go.RowKit
section
variable {P : Program} {ops : Array Oper} {rest : List Oper} {a : Act} {dst : Option Tmp} {ty : TypeId} {pos : String} {after : Array Edge} {guard : Option (Nat × Bool)} {w w0 : World} {S : List Nat} {bs : List (Nat × Obj)} {rows : List Row} {Q : Exit → Act → World → Prop} {C : World → Prop} {K : Act → Prop}
theorem run_quoB (t : TypeId) (m n : Nat) (hn : 0 < n) (hm : m < 256) (w : World) : (binOp .quo t (.int .u8 (m : Int)) (.int .u8 (n : Int))).run P w = .ok (.int .u8 ((m / n : Nat) : Int)) w := by
  show (Op.intDiv .quo .u8 (m : Int) (n : Int)).run P w = _
  have h0 : ¬ (n : Int) = 0 := by omega
  have h1 : IntKind.u8.wrap ((m : Int).tdiv (n : Int)) = ((m / n : Nat) : Int) := by rw [IntWalk.u8_quo _ _ (by omega)]; norm_cast
  simp only [Op.intDiv, h0, if_false, Sem.run_pure, h1]
theorem run_remB (t : TypeId) (m n : Nat) (hn : 0 < n) (w : World) : (binOp .rem t (.int .u8 (m : Int)) (.int .u8 (n : Int))).run P w = .ok (.int .u8 ((m % n : Nat) : Int)) w := by
  show (Op.intDiv .rem .u8 (m : Int) (n : Int)).run P w = _
  have h0 : ¬ (n : Int) = 0 := by omega
  have h1 : ((m : Int).tmod (n : Int)) = ((m % n : Nat) : Int) := by rw [IntWalk.rem_in _ _ (by omega)]; norm_cast
  simp only [Op.intDiv, h0, if_false, Sem.run_pure, h1]
theorem wpQ_quoB {t yt : TypeId} {b : UInt8} {n r : Nat} {q : Int} {x y : Operand} (hx : a.eval x = byt b) (hy : a.eval y = .int .u8 q) (hq : q = (n : Int)) (hn : 0 < n) (hr : b.toNat / n = r)
    (hg : Region.wanted { dst := dst, op := .binOp .quo t x y yt, type := ty, pos := pos, after := after, guard := guard } (yielded ops a.tmps) = true)
    (h : wpQuiet P ops C K rest (a.put dst (.int .u8 (r : Int)))) : wpQuiet P ops C K ({ dst := dst, op := .binOp .quo t x y yt, type := ty, pos := pos, after := after, guard := guard } :: rest) a := by
  subst hq hr
  have he : ∀ u v, eqGuard .quo t x y u v = pure () := fun _ _ => rfl
  exact wpQuiet_ex hg (fun w _ => by simp only [execOp, hx, hy, byt, Sem.run_bind, he, Sem.run_pure, Result.andThen_ok, run_quoB t _ n hn b.toNat_lt]) h
theorem wpQ_remB {t yt : TypeId} {b : UInt8} {n r : Nat} {q : Int} {x y : Operand} (hx : a.eval x = byt b) (hy : a.eval y = .int .u8 q) (hq : q = (n : Int)) (hn : 0 < n) (hr : b.toNat % n = r)
    (hg : Region.wanted { dst := dst, op := .binOp .rem t x y yt, type := ty, pos := pos, after := after, guard := guard } (yielded ops a.tmps) = true)
    (h : wpQuiet P ops C K rest (a.put dst (.int .u8 (r : Int)))) : wpQuiet P ops C K ({ dst := dst, op := .binOp .rem t x y yt, type := ty, pos := pos, after := after, guard := guard } :: rest) a := by
  subst hq hr
  have he : ∀ u v, eqGuard .rem t x y u v = pure () := fun _ _ => rfl
  exact wpQuiet_ex hg (fun w _ => by simp only [execOp, hx, hy, byt, Sem.run_bind, he, Sem.run_pure, Result.andThen_ok, run_remB t _ n hn]) h
theorem ex_sliceStr {ρ : Operand → Value} {t : TypeId} (ht : P.underlying t = some .string) {x : Operand} {l : List UInt8} {lo hi : Option Operand} {i j : Nat} (hx : ρ x = str l) (hlo : (lo.map ρ = none ∧ i = 0) ∨ ∃ k, lo.map ρ = some (.int k (i : Int))) (hhi : (hi.map ρ = none ∧ j = l.length) ∨ ∃ k, hi.map ρ = some (.int k (j : Int))) (hij : i ≤ j) (hj : j ≤ l.length) (w : World) :
    (execOp ρ { dst := dst, op := .slice t x lo hi none, type := ty, pos := pos, after := after, guard := guard }).run P w = .ok (.value (str ((l.drop i).take (j - i)))) w := by
  have hs : (⟨l.toArray⟩ : ByteArray).size = l.length := by simp [ByteArray.size]
  have he : (⟨l.toArray⟩ : ByteArray).extract i j = ⟨((l.drop i).take (j - i)).toArray⟩ := by
    apply ByteArray.ext
    have h1 : ((⟨l.toArray⟩ : ByteArray).extract i j).data.toList = (l.drop i).take (j - i) := by rw [Lib.extract_data]
    rw [← h1]
  have key : (Instr.sliceAt t (str l) (lo.map ρ) (hi.map ρ) none).run P w = .ok (str ((l.drop i).take (j - i))) w := by
    have hn : ∀ (n : Nat), (0 : Int) ≤ (n : Int) := fun n => by omega
    unfold str
    rw [← he]
    rcases hlo with ⟨h1, rfl⟩ | ⟨k1, h1⟩ <;> rcases hhi with ⟨h2, rfl⟩ | ⟨k2, h2⟩ <;> rw [h1, h2] <;>
      simp [Instr.sliceAt, Instr.slice, Instr.sliceBounds, Instr.sliceBound, asIntOf, run_underlying ht, hs, hij, hj] <;> first | done | (rw [he]; simp)
  simp only [execOp, hx, Option.map_none, Sem.run_bind, key, Result.andThen_ok, Sem.run_pure]
theorem wpL_sliceStr {t : TypeId} {l m : List UInt8} {lo hi : Option Operand} {i j : Nat} (ht : P.underlying t = some .string) {x : Operand} (hx : a.eval x = str l) (hlo : (lo.map a.eval = none ∧ i = 0) ∨ ∃ k, lo.map a.eval = some (.int k (i : Int))) (hhi : (hi.map a.eval = none ∧ j = l.length) ∨ ∃ k, hi.map a.eval = some (.int k (j : Int))) (hij : i ≤ j) (hj : j ≤ l.length) (hm : (l.drop i).take (j - i) = m)
    (hg : Region.wanted { dst := dst, op := .slice t x lo hi none, type := ty, pos := pos, after := after, guard := guard } (yielded ops a.tmps) = true)
    (h : wpList P ops Q rest (a.put dst (str m)) w) : wpList P ops Q ({ dst := dst, op := .slice t x lo hi none, type := ty, pos := pos, after := after, guard := guard } :: rest) a w := by
  subst hm
  exact wpList_ex hg (ex_sliceStr (ρ := a.eval) ht hx hlo hhi hij hj w) h
theorem wpQ_sliceStr {t : TypeId} {l m : List UInt8} {lo hi : Option Operand} {i j : Nat} (ht : P.underlying t = some .string) {x : Operand} (hx : a.eval x = str l) (hlo : (lo.map a.eval = none ∧ i = 0) ∨ ∃ k, lo.map a.eval = some (.int k (i : Int))) (hhi : (hi.map a.eval = none ∧ j = l.length) ∨ ∃ k, hi.map a.eval = some (.int k (j : Int))) (hij : i ≤ j) (hj : j ≤ l.length) (hm : (l.drop i).take (j - i) = m)
    (hg : Region.wanted { dst := dst, op := .slice t x lo hi none, type := ty, pos := pos, after := after, guard := guard } (yielded ops a.tmps) = true)
    (h : wpQuiet P ops C K rest (a.put dst (str m))) : wpQuiet P ops C K ({ dst := dst, op := .slice t x lo hi none, type := ty, pos := pos, after := after, guard := guard } :: rest) a := by
  subst hm
  exact wpQuiet_ex hg (fun w _ => ex_sliceStr (ρ := a.eval) ht hx hlo hhi hij hj w) h
end
/-- Bytes of a literal, in a region that draws its order. -/
theorem ex_buildB {P : Program} {ρ : Operand → Value} {dst : Option Tmp} {ty : TypeId} {pos : String} {after : Array Edge} {guard : Option (Nat × Bool)} {t : TypeId} (hE : Elem P t 5 1 1) (l : List UInt8) {parts : Array (Nat × Operand)} {n : Nat}
    (hn : n = l.length) (hp : (parts.toList.map fun p => (p.1, ρ p.2)) = ((l.map byt).zipIdx 0).map fun p => (p.2, p.1)) (hb : n ≤ 1000) (w : World) :
    ∃ v w', (execOp ρ { dst := dst, op := .buildSlice t n parts, type := ty, pos := pos, after := after, guard := guard }).run P w = .ok (.value v) w' ∧ Below w.heap.size w w' ∧
      ∀ base, base ≤ w.heap.size → (∃ ao, v = .slice ao n n) ∧ w'.ownsRow base 5 1 v n (l.map byt) := by
  have hv : ∀ v ∈ l.map byt, v.cells.size = 1 := by
    intro v hv
    obtain ⟨x, _, rfl⟩ := List.mem_map.1 hv
    rfl
  have h := run_buildSlice (P := P) hE (l.map byt) hv (by simp; omega) w
  have hx : (l.map byt).flatMap (·.cells.toList) = l.map byt := by
    clear hp hb hv h hn
    induction l with
    | nil => rfl
    | cons x l ih => simp only [List.map_cons, List.flatMap_cons, ih]; rfl
  rw [hx, List.length_map, ← hn] at h
  refine ⟨_, w.alloc (.cells (l.map byt).toArray 5), ?_, below_alloc w _, fun base hbase => ⟨⟨_, rfl⟩, by simp [hn], .inr ⟨w.heap.size, n, _, rfl, hbase, heap_alloc_new w _, Nat.le_refl _, by unfold maxLen; omega, by simp [hn], by rw [hn, Nat.mul_one]; exact List.take_of_length_le (by simp)⟩⟩⟩
  simp only [execOp, Sem.run_bind]
  rw [show (parts.map fun x => match x with | (i, y) => (i, ρ y)) = (parts.toList.map fun p => (p.1, ρ p.2)).toArray by rw [← Array.toList_map, Array.toArray_toList], hp, h]
  rfl
section
variable {P : Program} {w : World} {ρ : Operand → Value} {dst : Option Tmp} {ty : TypeId} {pos : String} {after : Array Edge} {guard : Option (Nat × Bool)}
theorem ex_quoB {t yt : TypeId} {b : UInt8} {n r : Nat} {q : Int} {x y : Operand} (hx : ρ x = byt b) (hy : ρ y = .int .u8 q) (hq : q = (n : Int)) (hn : 0 < n) (hr : b.toNat / n = r) (w : World) :
    (execOp ρ { dst := dst, op := .binOp .quo t x y yt, type := ty, pos := pos, after := after, guard := guard }).run P w = .ok (.value (.int .u8 (r : Int))) w := by
  subst hq hr
  have he : ∀ u v, eqGuard .quo t x y u v = pure () := fun _ _ => rfl
  simp only [execOp, hx, hy, byt, Sem.run_bind, he, Sem.run_pure, Result.andThen_ok, run_quoB t _ n hn b.toNat_lt]
theorem ex_remB {t yt : TypeId} {b : UInt8} {n r : Nat} {q : Int} {x y : Operand} (hx : ρ x = byt b) (hy : ρ y = .int .u8 q) (hq : q = (n : Int)) (hn : 0 < n) (hr : b.toNat % n = r) (w : World) :
    (execOp ρ { dst := dst, op := .binOp .rem t x y yt, type := ty, pos := pos, after := after, guard := guard }).run P w = .ok (.value (.int .u8 (r : Int))) w := by
  subst hq hr
  have he : ∀ u v, eqGuard .rem t x y u v = pure () := fun _ _ => rfl
  simp only [execOp, hx, hy, byt, Sem.run_bind, he, Sem.run_pure, Result.andThen_ok, run_remB t _ n hn]
end
end Go.Proofs.Ytohdkmgnnncpkaa
