/- Variables of the call's own that hold several cells: read and written, whole or in part. Over any program. No condition. -/
import Derived.Test.YtohdkmgnnncpkaaW
set_option linter.unusedSimpArgs false
set_option linter.unusedVariables false
namespace Go.Proofs.Ytohdkmgnnncpkaa
open Go.RowKit
/-- A variable that holds these cells. -/
def objC (cs : List Value) (e : TypeId) : Obj := .cells cs.toArray e
section
variable {P : Program} {w0 w : World} {S : List Nat} {bs bs' : List (Nat × Obj)} {rows : List Row} {ops : Array Oper} {rest : List Oper} {a : Act} {Q : Exit → Act → World → Prop} {K : Act → Prop} {dst : Option Tmp} {ty : TypeId} {pos : String} {after : Array Edge} {guard : Option (Nat × Bool)}
theorem wpL_allocC {zs : List Value} {e : TypeId} (hz : (P.info? e).map (·.zero) = some (some (.agg zs.toArray))) (hH : Holds w0 S bs rows w)
    (hg : Region.wanted { dst := dst, op := .alloc e, type := ty, pos := pos, after := after, guard := guard } (yielded ops a.tmps) = true)
    (h : ∀ g w', Holds w0 S ((g, objC zs e) :: bs) rows w' → wpList P ops Q rest (a.put dst (.pointer (some ⟨g, 0, none⟩))) w') :
    wpList P ops Q ({ dst := dst, op := .alloc e, type := ty, pos := pos, after := after, guard := guard } :: rest) a w := wpList_alloc hz hH hg h
theorem wpL_alloc1 {z : Value} {e : TypeId} (hz : (P.info? e).map (·.zero) = some (some z)) (h1 : z.cells = #[z]) (hH : Holds w0 S bs rows w)
    (hg : Region.wanted { dst := dst, op := .alloc e, type := ty, pos := pos, after := after, guard := guard } (yielded ops a.tmps) = true)
    (h : ∀ g w', Holds w0 S ((g, objC [z] e) :: bs) rows w' → wpList P ops Q rest (a.put dst (.pointer (some ⟨g, 0, none⟩))) w') :
    wpList P ops Q ({ dst := dst, op := .alloc e, type := ty, pos := pos, after := after, guard := guard } :: rest) a w := by
  refine wpList_alloc hz hH hg fun g w' h' => h g w' ?_
  rw [h1] at h'
  exact h'
theorem wpL_boxC {cs : List Value} {e : TypeId} {x : Operand} (hx : a.eval x = .agg cs.toArray) (hH : Holds w0 S bs rows w)
    (hg : Region.wanted { dst := dst, op := .box e x, type := ty, pos := pos, after := after, guard := guard } (yielded ops a.tmps) = true)
    (h : ∀ g w', Holds w0 S ((g, objC cs e) :: bs) rows w' → wpList P ops Q rest (a.put dst (.pointer (some ⟨g, 0, none⟩))) w') :
    wpList P ops Q ({ dst := dst, op := .box e x, type := ty, pos := pos, after := after, guard := guard } :: rest) a w := wpList_box hx hH hg h
theorem wpL_box1 {v : Value} {e : TypeId} {x : Operand} (hx : a.eval x = v) (h1 : v.cells = #[v]) (hH : Holds w0 S bs rows w)
    (hg : Region.wanted { dst := dst, op := .box e x, type := ty, pos := pos, after := after, guard := guard } (yielded ops a.tmps) = true)
    (h : ∀ g w', Holds w0 S ((g, objC [v] e) :: bs) rows w' → wpList P ops Q rest (a.put dst (.pointer (some ⟨g, 0, none⟩))) w') :
    wpList P ops Q ({ dst := dst, op := .box e x, type := ty, pos := pos, after := after, guard := guard } :: rest) a w := by
  refine wpList_box hx hH hg fun g w' h' => h g w' ?_
  rw [h1] at h'
  exact h'
theorem ex_loadPart {ρ : Operand → Value} {t : TypeId} {n : Nat} (hA : AggT P t n) (hH : Holds w0 S bs rows w) {x : Operand} {g j : Nat} {cs vs : List Value} {e : TypeId}
    (hx : ρ x = .pointer (some ⟨g, j, none⟩)) (ho : Own bs g (objC cs e)) (hv : (cs.drop j).take n = vs) (hl : vs.length = n) :
    (execOp ρ { dst := dst, op := .load t x, type := ty, pos := pos, after := after, guard := guard }).run P w = .ok (.value (.agg vs.toArray)) w := by
  obtain ⟨d, hu, hd, hi⟩ := hA
  refine ex_load_agg hx hu hd hi hl (fun i u hu' => ?_)
  have hadd : (⟨g, j, none⟩ : Addr).add i = ⟨g, j + i, none⟩ := by unfold Addr.add; split <;> simp_all
  have hi' : i < n := by rw [← hl]; exact (List.getElem?_eq_some_iff.1 hu').1
  rw [hadd, cell_own hH ho (j + i), List.getElem?_toArray]
  rw [← hv, List.getElem?_take, if_pos hi', List.getElem?_drop] at hu'
  exact hu'
theorem wpL_loadPart {t : TypeId} {n : Nat} (hA : AggT P t n) (hH : Holds w0 S bs rows w) {x : Operand} {g j : Nat} {cs vs : List Value} {e : TypeId}
    (hx : a.eval x = .pointer (some ⟨g, j, none⟩)) (ho : Own bs g (objC cs e)) (hv : (cs.drop j).take n = vs) (hl : vs.length = n)
    (hg : Region.wanted { dst := dst, op := .load t x, type := ty, pos := pos, after := after, guard := guard } (yielded ops a.tmps) = true)
    (h : wpList P ops Q rest (a.put dst (.agg vs.toArray)) w) : wpList P ops Q ({ dst := dst, op := .load t x, type := ty, pos := pos, after := after, guard := guard } :: rest) a w :=
  wpList_ex hg (ex_loadPart hA hH hx ho hv hl) h
theorem wpQ_loadPart {t : TypeId} {n : Nat} (hA : AggT P t n) {x : Operand} {g j : Nat} {cs vs : List Value} {e : TypeId}
    (hx : a.eval x = .pointer (some ⟨g, j, none⟩)) (ho : Own bs g (objC cs e)) (hv : (cs.drop j).take n = vs) (hl : vs.length = n)
    (hg : Region.wanted { dst := dst, op := .load t x, type := ty, pos := pos, after := after, guard := guard } (yielded ops a.tmps) = true)
    (h : wpQuiet P ops (fun w' => Holds w0 S bs rows w') K rest (a.put dst (.agg vs.toArray))) : wpQuiet P ops (fun w' => Holds w0 S bs rows w') K ({ dst := dst, op := .load t x, type := ty, pos := pos, after := after, guard := guard } :: rest) a :=
  wpQuiet_ex hg (fun w hw => ex_loadPart hA hw hx ho hv hl) h
/-- A whole variable. -/
theorem wpL_loadC {t : TypeId} {n : Nat} (hA : AggT P t n) (hH : Holds w0 S bs rows w) {x : Operand} {g : Nat} {cs : List Value} {e : TypeId}
    (hx : a.eval x = .pointer (some ⟨g, 0, none⟩)) (ho : Own bs g (objC cs e)) (hl : cs.length = n)
    (hg : Region.wanted { dst := dst, op := .load t x, type := ty, pos := pos, after := after, guard := guard } (yielded ops a.tmps) = true)
    (h : wpList P ops Q rest (a.put dst (.agg cs.toArray)) w) : wpList P ops Q ({ dst := dst, op := .load t x, type := ty, pos := pos, after := after, guard := guard } :: rest) a w :=
  wpL_loadPart hA hH hx ho (by rw [List.drop_zero, ← hl, List.take_length]) hl hg h
theorem wpQ_loadC {t : TypeId} {n : Nat} (hA : AggT P t n) {x : Operand} {g : Nat} {cs : List Value} {e : TypeId}
    (hx : a.eval x = .pointer (some ⟨g, 0, none⟩)) (ho : Own bs g (objC cs e)) (hl : cs.length = n)
    (hg : Region.wanted { dst := dst, op := .load t x, type := ty, pos := pos, after := after, guard := guard } (yielded ops a.tmps) = true)
    (h : wpQuiet P ops (fun w' => Holds w0 S bs rows w') K rest (a.put dst (.agg cs.toArray))) : wpQuiet P ops (fun w' => Holds w0 S bs rows w') K ({ dst := dst, op := .load t x, type := ty, pos := pos, after := after, guard := guard } :: rest) a :=
  wpQ_loadPart hA hx ho (by rw [List.drop_zero, ← hl, List.take_length]) hl hg h
theorem ex_load1 {ρ : Operand → Value} {t : TypeId} (hA : OneT P t) (hH : Holds w0 S bs rows w) {x : Operand} {g j : Nat} {cs : List Value} {v : Value} {e : TypeId}
    (hx : ρ x = .pointer (some ⟨g, j, none⟩)) (ho : Own bs g (objC cs e)) (hv : cs[j]? = some v) :
    (execOp ρ { dst := dst, op := .load t x, type := ty, pos := pos, after := after, guard := guard }).run P w = .ok (.value v) w := by
  obtain ⟨d, hu, hd⟩ := hA
  exact ex_load_one hx hu hd ((cell_own hH ho j).trans (by rw [List.getElem?_toArray]; exact hv))
theorem wpL_load1 {t : TypeId} (hA : OneT P t) (hH : Holds w0 S bs rows w) {x : Operand} {g j : Nat} {cs : List Value} {v : Value} {e : TypeId}
    (hx : a.eval x = .pointer (some ⟨g, j, none⟩)) (ho : Own bs g (objC cs e)) (hv : cs[j]? = some v)
    (hg : Region.wanted { dst := dst, op := .load t x, type := ty, pos := pos, after := after, guard := guard } (yielded ops a.tmps) = true)
    (h : wpList P ops Q rest (a.put dst v) w) : wpList P ops Q ({ dst := dst, op := .load t x, type := ty, pos := pos, after := after, guard := guard } :: rest) a w :=
  wpList_ex hg (ex_load1 hA hH hx ho hv) h
theorem wpQ_load1 {t : TypeId} (hA : OneT P t) {x : Operand} {g j : Nat} {cs : List Value} {v : Value} {e : TypeId}
    (hx : a.eval x = .pointer (some ⟨g, j, none⟩)) (ho : Own bs g (objC cs e)) (hv : cs[j]? = some v)
    (hg : Region.wanted { dst := dst, op := .load t x, type := ty, pos := pos, after := after, guard := guard } (yielded ops a.tmps) = true)
    (h : wpQuiet P ops (fun w' => Holds w0 S bs rows w') K rest (a.put dst v)) : wpQuiet P ops (fun w' => Holds w0 S bs rows w') K ({ dst := dst, op := .load t x, type := ty, pos := pos, after := after, guard := guard } :: rest) a :=
  wpQuiet_ex hg (fun w hw => ex_load1 hA hw hx ho hv) h
/-- A part is written. -/
theorem wpL_storePart {t : TypeId} {x y : Operand} {g j : Nat} {vs cs : List Value} {sz : Nat} {v : Value} {e : TypeId}
    (hx : a.eval x = .pointer (some ⟨g, j, none⟩)) (hy : a.eval y = v) (hvs : v.cells.toList = vs) (hi : (P.info? t).map (·.size) = some sz)
    (hH : Holds w0 S bs rows w) (ht : Turn bs g (objC cs e) (objC (cs.take j ++ vs ++ cs.drop (j + sz)) e) bs') (hv : vs.length = sz) (h1 : ∀ u ∈ vs, u.oneCell' = true) (hc : j + sz ≤ cs.length)
    (hg : Region.wanted { dst := dst, op := .store t x y, type := ty, pos := pos, after := after, guard := guard } (yielded ops a.tmps) = true)
    (h : ∀ w', Holds w0 S bs' rows w' → wpList P ops Q rest (a.put dst undef) w') :
    wpList P ops Q ({ dst := dst, op := .store t x y, type := ty, pos := pos, after := after, guard := guard } :: rest) a w := by
  subst hvs
  have hblk : w.heap[g]? = some (.cells cs.toArray e (0, 0)) := hH.at ht.own
  refine wpList_exskip hg (w' := w.setRow g (cs.take j ++ v.cells.toList ++ cs.drop (j + sz)).toArray) ?_ (h _ (hH.turn ht (setRow_heap w g cs.toArray _ e (0, 0) hblk) rfl rfl rfl (by simp) fun k _ hk => setRow_other w g k _ hk))
  have hs := run_storeCells_at P g j e v.cells.toList 0 cs.toArray w hblk (by simp at hv ⊢; omega) h1
  simp only [Nat.add_zero, hv] at hs
  have hvz : v.cells.size = sz := by simpa using hv
  simp only [execOp, hx, hy, Instr.storeAt, Instr.sureAddr, storeVar, Sem.run_bind, Sem.run_pure, Result.andThen_ok, run_sizeOf hi, hvz, ne_eq, not_true_eq_false, if_false, hs]
/-- One cell is written. -/
theorem wpL_store1 {t : TypeId} {x y : Operand} {g j : Nat} {cs : List Value} {v : Value} {e : TypeId}
    (hx : a.eval x = .pointer (some ⟨g, j, none⟩)) (hy : a.eval y = v) (hvs : v.cells = #[v]) (hi : (P.info? t).map (·.size) = some 1)
    (hH : Holds w0 S bs rows w) (ht : Turn bs g (objC cs e) (objC (cs.set j v) e) bs') (h1 : v.oneCell' = true) (hc : j < cs.length)
    (hg : Region.wanted { dst := dst, op := .store t x y, type := ty, pos := pos, after := after, guard := guard } (yielded ops a.tmps) = true)
    (h : ∀ w', Holds w0 S bs' rows w' → wpList P ops Q rest (a.put dst undef) w') :
    wpList P ops Q ({ dst := dst, op := .store t x y, type := ty, pos := pos, after := after, guard := guard } :: rest) a w := by
  refine wpL_storePart (e := e) (cs := cs) (vs := [v]) hx hy (by rw [hvs]) hi hH ?_ rfl (by simpa using h1) (by omega) hg h
  rw [List.set_eq_take_append_cons_drop, if_pos hc] at ht
  simpa using ht
/-- A whole variable is written. -/
theorem wpL_storeC {t : TypeId} {x y : Operand} {g : Nat} {vs cs : List Value} {sz : Nat} {e : TypeId}
    (hx : a.eval x = .pointer (some ⟨g, 0, none⟩)) (hy : a.eval y = .agg vs.toArray) (hi : (P.info? t).map (·.size) = some sz)
    (hH : Holds w0 S bs rows w) (ht : Turn bs g (objC cs e) (objC vs e) bs') (hv : vs.length = sz) (h1 : ∀ u ∈ vs, u.oneCell' = true) (hc : cs.length = sz)
    (hg : Region.wanted { dst := dst, op := .store t x y, type := ty, pos := pos, after := after, guard := guard } (yielded ops a.tmps) = true)
    (h : ∀ w', Holds w0 S bs' rows w' → wpList P ops Q rest (a.put dst undef) w') :
    wpList P ops Q ({ dst := dst, op := .store t x y, type := ty, pos := pos, after := after, guard := guard } :: rest) a w := by
  refine wpL_storePart (e := e) (cs := cs) (vs := vs) hx hy (by simp [Value.cells]) hi hH ?_ hv h1 (by omega) hg h
  have : cs.take 0 ++ vs ++ cs.drop (0 + sz) = vs := by rw [List.drop_eq_nil_of_le (by omega)]; simp
  rw [this]
  exact ht
theorem resC {tmps : Array Value} {n : Nat} {t e : TypeId} (hA : AggT P t n) {r : Tmp} {g : Nat} {cs : List Value} (hH : Holds w0 S bs rows w) (ht : tmps.getD r undef = .pointer (some ⟨g, 0, none⟩)) (ho : Own bs g (objC cs e)) (hl : cs.length = n) : ResAt P w tmps (.cell r t) (.agg cs.toArray) := by
  obtain ⟨d, hu, hd, hi⟩ := hA
  refine ⟨_, ht, ?_⟩
  refine run_loadVar_agg hu hd hi hl fun j u hu' => ?_
  have hadd : (⟨g, 0, none⟩ : Addr).add j = ⟨g, j, none⟩ := by unfold Addr.add; split <;> simp_all
  rw [hadd, cell_own hH ho j, List.getElem?_toArray]
  exact hu'
end
/-- A variable that holds words. -/
def objW (l : List W32) (e : TypeId) : Obj := objC (l.map wrd) e
def valW (l : List W32) : Value := .agg (l.map wrd).toArray
theorem wrd_one (l : List W32) : ∀ u ∈ l.map wrd, u.oneCell' = true := by
  intro u hu; obtain ⟨x, _, rfl⟩ := List.mem_map.1 hu; rfl
/-- The state of the computation. -/
structure St where
  (a b c d e f g h : W32)
def St.ws (s : St) : List W32 := [s.a, s.b, s.c, s.d, s.e, s.f, s.g, s.h]
end Go.Proofs.Ytohdkmgnnncpkaa
