/- Results that lie in variables of the call's own. Over any program. No condition. -/
import Derived.Test.YtohdkmgnnncpkaaE
namespace Go.Proofs.Ytohdkmgnnncpkaa
open Go.RowKit
section
variable {P : Program} {w w0 : World} {S : List Nat} {bs : List (Nat × Obj)} {rows : List Row}
/-- What one result's slot gives. -/
def ResAt (P : Program) (w : World) (tmps : Array Value) (r : ResultVar) (v : Value) : Prop :=
  match r with
  | .tmp t => tmps.getD t undef = v
  | .cell a t => ∃ ad, tmps.getD a undef = .pointer (some ad) ∧ (loadVar t ad).run P w = .ok v w
def resOne (tmps : Array Value) (r : ResultVar) : Sem Value :=
  match r with
  | .tmp t => pure (tmps.getD t undef)
  | .cell a t => do loadVar t (← asAddr (tmps.getD a undef))
theorem run_resOne {tmps : Array Value} {r : ResultVar} {v : Value} (h : ResAt P w tmps r v) : (resOne tmps r).run P w = .ok v w := by
  cases r with
  | tmp t => simp only [ResAt] at h; simp [resOne, h]
  | cell a t =>
    obtain ⟨ad, h1, h2⟩ := h
    simp [resOne, h1, asAddr, h2]
theorem results_eq (fn : Func) (tmps : Array Value) : results fn tmps = (do let vs ← fn.results.mapM (resOne tmps); pure (if h : vs.size = 1 then vs[0] else .tuple vs)) := by
  unfold results
  congr 1
theorem res1 {fn : Func} {tmps : Array Value} {r1 : ResultVar} {v1 : Value} (h : fn.results = #[r1]) (h1 : ResAt P w tmps r1 v1) : (results fn tmps).run P w = .ok v1 w := by
  rw [results_eq, h]
  simp [run_resOne h1]
theorem res2 {fn : Func} {tmps : Array Value} {r1 r2 : ResultVar} {v1 v2 : Value} (h : fn.results = #[r1, r2]) (h1 : ResAt P w tmps r1 v1) (h2 : ResAt P w tmps r2 v2) : (results fn tmps).run P w = .ok (.tuple #[v1, v2]) w := by
  rw [results_eq, h]
  simp [run_resOne h1, run_resOne h2]
theorem res3 {fn : Func} {tmps : Array Value} {r1 r2 r3 : ResultVar} {v1 v2 v3 : Value} (h : fn.results = #[r1, r2, r3]) (h1 : ResAt P w tmps r1 v1) (h2 : ResAt P w tmps r2 v2) (h3 : ResAt P w tmps r3 v3) : (results fn tmps).run P w = .ok (.tuple #[v1, v2, v3]) w := by
  rw [results_eq, h]
  simp [run_resOne h1, run_resOne h2, run_resOne h3]
theorem resA {tmps : Array Value} {n : Nat} {t e : TypeId} (hA : AggT P t n) {a : Tmp} {g : Nat} {v : Arr n} (hH : Holds w0 S bs rows w) (ht : tmps.getD a undef = .pointer (some ⟨g, 0, none⟩)) (ho : Own bs g (objA v e)) : ResAt P w tmps (.cell a t) v.val := by
  obtain ⟨d, hu, hd, hi⟩ := hA
  refine ⟨_, ht, ?_⟩
  refine run_loadVar_agg hu hd hi (Arr.len v) fun j u hu' => ?_
  have hadd : (⟨g, 0, none⟩ : Addr).add j = ⟨g, j, none⟩ := by unfold Addr.add; split <;> simp_all
  rw [hadd, cell_own hH ho j]
  simpa using hu'
theorem resO {tmps : Array Value} {t e : TypeId} {d : TypeDesc} (hu : P.underlying t = some d) (hd : aggD d = false) {a : Tmp} {g : Nat} {v : Value} (hH : Holds w0 S bs rows w) (ht : tmps.getD a undef = .pointer (some ⟨g, 0, none⟩)) (ho : Own bs g (.cells #[v] e)) : ResAt P w tmps (.cell a t) v := by
  refine ⟨_, ht, ?_⟩
  have h1 : (isAgg t).run P w = .ok false w := by
    simp only [isAgg, Sem.run_bind, run_underlying hu, Result.andThen_ok]
    cases d <;> simp_all [aggD]
  have hc : w.cell? ⟨g, 0, none⟩ = some v := by rw [cell_own hH ho 0]; rfl
  simp only [loadVar, Sem.run_bind, h1, Result.andThen_ok, Bool.false_eq_true, if_false, run_load, hc]
end
/-- x[:k] -/
theorem ex_slice_to {P : Program} {ρ : Operand → Value} {dst : Option Tmp} {ty : TypeId} {pos : String} {after : Array Edge} {guard : Option (Nat × Bool)} {t e : TypeId} {sz bytes : Nat} (hE : Elem P t e sz bytes) {x hi : Operand} {ao : Option Addr} {n c j : Nat} {q : Int} {k : IntKind} (hx : ρ x = .slice ao n c) (hh : ρ hi = .int k q) (hq : q = (j : Int)) (hj : j ≤ c) (w : World) :
    (execOp ρ { dst := dst, op := .slice t x none (some hi) none, type := ty, pos := pos, after := after, guard := guard }).run P w = .ok (.value (.slice ao j c)) w := by
  subst hq
  obtain ⟨ht, hsz, _, ii, z, hi', _, hsize, _, _⟩ := hE
  have h2 : ∀ w, (sizeOf e).run P w = .ok sz w := run_sizeOf (by rw [hi']; simp [hsize])
  simp [execOp, hx, hh, Instr.sliceAt, Instr.slice, Instr.sliceBounds, Instr.sliceBound, asIntOf, run_underlying ht, h2, hj]
  intro _
  cases ao <;> simp [Addr.add]
theorem Sl.take {w : World} {ao : Option Addr} {n c sz j : Nat} {cs : List Value} (h : Sl w (.slice ao n c) sz n cs) (hj : j ≤ n) : Sl w (.slice ao j c) sz j (cs.take (j * sz)) := by
  obtain ⟨ao', cap, e, hc, hl, hcell⟩ := h
  simp only [Value.slice.injEq, true_and] at e
  obtain ⟨rfl, rfl⟩ := e
  have hle : j * sz ≤ n * sz := Nat.mul_le_mul_right _ hj
  refine ⟨_, _, rfl, by omega, by rw [List.length_take, hl]; omega, fun i u hu => ?_⟩
  rw [List.getElem?_take] at hu
  split at hu
  · exact hcell _ _ hu
  · cases hu
section
variable {P : Program} {ops : Array Oper} {rest : List Oper} {a : Act} {dst : Option Tmp} {ty : TypeId} {pos : String} {after : Array Edge} {guard : Option (Nat × Bool)} {C : World → Prop} {K : Act → Prop}
theorem wpQ_slice_to {t e : TypeId} {sz bytes : Nat} (hE : Elem P t e sz bytes) {x hi : Operand} {ao : Option Addr} {n c j : Nat} {q : Int} {k : IntKind} (hx : a.eval x = .slice ao n c) (hh : a.eval hi = .int k q) (hq : q = (j : Int)) (hj : j ≤ c)
    (hg : Region.wanted { dst := dst, op := .slice t x none (some hi) none, type := ty, pos := pos, after := after, guard := guard } (yielded ops a.tmps) = true)
    (h : wpQuiet P ops C K rest (a.put dst (.slice ao j c))) : wpQuiet P ops C K ({ dst := dst, op := .slice t x none (some hi) none, type := ty, pos := pos, after := after, guard := guard } :: rest) a :=
  wpQuiet_ex hg (fun w _ => ex_slice_to hE hx hh hq hj w) h
theorem wpQ_build {t : TypeId} {parts : Array (Nat × Operand)} {v : Value} (hb : ∀ w, (Instr.build t (parts.toList.map fun p => (p.1, a.eval p.2)).toArray).run P w = .ok v w)
    (hg : Region.wanted { dst := dst, op := .build t parts, type := ty, pos := pos, after := after, guard := guard } (yielded ops a.tmps) = true)
    (h : wpQuiet P ops C K rest (a.put dst v)) : wpQuiet P ops C K ({ dst := dst, op := .build t parts, type := ty, pos := pos, after := after, guard := guard } :: rest) a :=
  wpQuiet_ex hg (fun w _ => by
    simp only [execOp, Sem.run_bind]
    rw [show (parts.map fun x => match x with | (i, y) => (i, a.eval y)) = (parts.toList.map fun p => (p.1, a.eval p.2)).toArray by rw [← Array.toList_map, Array.toArray_toList], hb]
    rfl) h
end
end Go.Proofs.Ytohdkmgnnncpkaa
