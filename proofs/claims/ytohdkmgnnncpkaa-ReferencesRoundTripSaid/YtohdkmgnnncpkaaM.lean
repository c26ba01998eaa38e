/- A map of the call's own, from arrays of bytes to true: a set. Over any program. No condition. -/
import Derived.WideKeyArr2
import Derived.ChangeSlices
import Derived.ChangeMaps4
import Derived.Carry
import Derived.Test.YtohdkmgnnncpkaaE
namespace Go.Proofs.Ytohdkmgnnncpkaa
open Go.RowKit Go.ChangeShapes Go.WideShapes
section
variable {P : Program} {k e : TypeId} {n : Nat}
theorem arr_key (A : WideMaps.ArrKey P k e n) (he : P.underlying e = some (.int .u8)) (hsz : ∃ m, P.types.size = m + 1) (x : Arr n) : ∃ kl, keyOf P k x.val = some kl := by
  have hkt := A.keyType hsz
  obtain ⟨m0, hm0⟩ := hsz
  unfold keyOf
  simp only [A.hu]
  rw [if_pos (by simp [hkt, Value.formed, A.hu, A.size, Arr.val, Arr.len]), hm0]
  unfold Program.keyLits
  simp only [A.hu, Arr.val, Value.cells, List.size_toArray]
  have hl : x.cells.length = P.cellsOf k := by rw [A.size, Arr.len]
  rw [if_pos hl]
  have : ∀ i, i < n → P.keyLits (m0 + 1) e ((x.cells.drop (i * P.cellsOf e)).take (P.cellsOf e)) = some ((fun i => [Lit.int .u8 ((x.1.getD i 0).toNat : Int)]) i) := by
    intro i hi
    have hi' : i < x.cells.length := by rw [Arr.len]; exact hi
    have hi2 : i < x.1.length := by rw [x.2]; exact hi
    rw [A.one, Nat.mul_one, List.drop_eq_getElem_cons hi', List.take_succ_cons, List.take_zero]
    unfold Program.keyLits
    have hv : x.cells[i] = .int .u8 ((x.1.getD i 0).toNat : Int) := by
      simp [Arr.cells, byt, List.getD, List.getElem?_eq_getElem hi2]
    rw [he, hv]
    clear hv
    have hb := (x.1.getD i 0).toNat_lt
    have e1 : IntKind.u8.min = 0 := rfl
    have e2 : IntKind.u8.max = 255 := rfl
    have hw : (Lit.int .u8 ((x.1.getD i 0).toNat : Int)).wf = true := by
      simp only [Lit.wf, Bool.and_eq_true, decide_eq_true_eq]
      omega
    simp only [hw, and_self, if_true]
  have hmap := mapM_range_of (f := fun i => P.keyLits (m0 + 1) e ((x.cells.drop (i * P.cellsOf e)).take (P.cellsOf e))) n this
  exact ⟨_, by rw [hmap]; rfl⟩
theorem Arr.val_inj {x y : Arr n} (h : x.val = y.val) : x = y := by
  apply Subtype.ext
  have h1 : x.cells = y.cells := by simpa [Arr.val] using h
  unfold Arr.cells at h1
  exact (List.map_inj_right (fun a b => byt_inj)).1 h1
/-- The entries of the set. -/
def ents (l : List (Arr n)) : List MapEntry := (l.zipIdx 0).map fun p => ⟨p.1.val, .bool true, p.2⟩
def mapObj (l : List (Arr n)) : Obj := .map (ents l).toArray l.length
theorem ents_push (l : List (Arr n)) (x : Arr n) : ents (l ++ [x]) = ents l ++ [⟨x.val, .bool true, l.length⟩] := by
  simp [ents, List.zipIdx_append]
theorem ents_mem {l : List (Arr n)} {m : MapEntry} (h : m ∈ ents l) : ∃ x ∈ l, m.key = x.val ∧ m.val = .bool true := by
  simp only [ents, List.mem_map] at h
  obtain ⟨p, hp, rfl⟩ := h
  exact ⟨p.1, List.fst_mem_of_mem_zipIdx hp, rfl, rfl⟩
theorem ents_of {l : List (Arr n)} {x : Arr n} (h : x ∈ l) : ∃ m ∈ ents l, m.key = x.val := by
  obtain ⟨i, hi, rfl⟩ := List.getElem_of_mem h
  refine ⟨⟨l[i].val, .bool true, i⟩, ?_, rfl⟩
  simp only [ents, List.mem_map]
  exact ⟨(l[i], i), by rw [List.mk_mem_zipIdx_iff_getElem?]; simp [hi], rfl⟩
theorem set_find (A : WideMaps.ArrKey P k e n) (he : P.underlying e = some (.int .u8)) (hsz : ∃ m, P.types.size = m + 1) (l : List (Arr n)) (x : Arr n) (w : World) :
    ((Instr.findKey k x.val (ents l)).run P w = .ok none w ∧ x ∉ l) ∨ (∃ j, (Instr.findKey k x.val (ents l)).run P w = .ok (some (j, .bool true)) w) ∧ x ∈ l := by
  obtain ⟨kl, hk⟩ := arr_key A he hsz x
  rcases A.law.find w hk (ents l) (fun m hm => by obtain ⟨y, _, hy, _⟩ := ents_mem hm; rw [hy]; exact arr_key A he hsz y) with ⟨h1, h2⟩ | ⟨j, m, h1, h2, h3⟩
  · refine .inl ⟨h1, fun hx => ?_⟩
    obtain ⟨m, hm, hmk⟩ := ents_of hx
    exact h2 m hm hmk
  · have hm := List.mem_of_getElem? h2
    obtain ⟨y, hy, hk1, hv1⟩ := ents_mem hm
    rw [hv1] at h1
    exact .inr ⟨⟨j, h1⟩, by rw [Arr.val_inj (h3.symm.trans hk1)]; exact hy⟩
/-- What the table says of the set's type. -/
structure SetT (P : Program) (t k b : TypeId) (n : Nat) : Prop where
  ht : P.underlying t = some (.map k b)
  hk : ∃ e, WideMaps.ArrKey P k e n ∧ P.underlying e = some (.int .u8)
  hz : (P.info? b).map (·.zero) = some (some (.bool false))
  hsz : ∃ m, P.types.size = m + 1
variable {t b : TypeId}
theorem run_set_lookup (hT : SetT P t k b n) (l : List (Arr n)) (x : Arr n) {g : Nat} {w : World} (hg : w.heap[g]? = some (mapObj l)) :
    (Instr.lookup t (.map (some g)) x.val false).run P w = .ok (.bool (l.contains x)) w := by
  obtain ⟨e, A, he⟩ := hT.hk
  obtain ⟨kl, hk⟩ := arr_key A he hT.hsz x
  rcases set_find A he hT.hsz l x w with ⟨h1, h2⟩ | ⟨⟨j, h1⟩, h2⟩
  · have : l.contains x = false := by simpa using h2
    rw [this]
    simp [Instr.lookup, run_underlying hT.ht, MapKept.run_getObj_map hg, A.law.check w _ hk, h1, run_zeroValue hT.hz, Result.andThen]
  · have : l.contains x = true := by simpa using h2
    rw [this]
    simp [Instr.lookup, run_underlying hT.ht, MapKept.run_getObj_map hg, A.law.check w _ hk, h1, Result.andThen]
theorem run_set_update (hT : SetT P t k b n) (l : List (Arr n)) (x : Arr n) (hx : x ∉ l) {g : Nat} {w : World} (hg : w.heap[g]? = some (mapObj l)) :
    ∃ w', (Instr.mapUpdate t (.map (some g)) x.val (.bool true)).run P w = .ok () w' ∧ w'.heap[g]? = some (mapObj (l ++ [x])) ∧ w'.os = w.os ∧ w'.tape = w.tape ∧ w'.output = w.output ∧ w.heap.size ≤ w'.heap.size ∧
      ∀ j, j < w.heap.size → j ≠ g → w'.heap[j]? = w.heap[j]? := by
  obtain ⟨e, A, he⟩ := hT.hk
  obtain ⟨kl, hk⟩ := arr_key A he hT.hsz x
  rcases set_find A he hT.hsz l x w with ⟨h1, _⟩ | ⟨_, h2⟩
  · have hlt := (Array.getElem?_eq_some_iff.1 hg).1
    refine ⟨ChangeMaps.setBlock w g (mapObj (l ++ [x])), ?_, ?_, rfl, rfl, rfl, by simp [ChangeMaps.setBlock], ?_⟩
    · have hm : mapObj (l ++ [x]) = .map ((ents l).toArray.push ⟨x.val, .bool true, l.length⟩) (l.length + 1) := by
        unfold mapObj; rw [ents_push]; simp
      rw [hm]
      simp [Instr.mapUpdate, run_underlying hT.ht, MapKept.run_getObj_map hg, A.law.check w _ hk, h1, MapKept.run_setObj_map _ hg, Result.andThen, ChangeMaps.setBlock]
    · simp [ChangeMaps.setBlock, hlt]
    · intro j hj hne
      simp [ChangeMaps.setBlock, Array.getElem?_setIfInBounds, Ne.symm hne]
  · exact absurd h2 hx
section
variable {w w0 : World} {S : List Nat} {bs bs' : List (Nat × Obj)} {rows : List Row} {ops : Array Oper} {rest : List Oper} {a : Act} {Q : Exit → Act → World → Prop} {dst : Option Tmp} {ty : TypeId} {pos : String} {after : Array Edge} {guard : Option (Nat × Bool)}
theorem wpList_makeSet (hH : Holds w0 S bs rows w)
    (hg : Region.wanted { dst := dst, op := .makeMap t none, type := ty, pos := pos, after := after, guard := guard } (yielded ops a.tmps) = true)
    (h : ∀ g w', Holds w0 S ((g, mapObj ([] : List (Arr n))) :: bs) rows w' → wpList P ops Q rest (a.put dst (.map (some g))) w') :
    wpList P ops Q ({ dst := dst, op := .makeMap t none, type := ty, pos := pos, after := after, guard := guard } :: rest) a w := by
  refine wpList_ex hg (v := .map (some w.heap.size)) (w' := w.alloc (.map #[] 0)) ?_ (h _ _ (hH.alloc _))
  have := run_makeMap (P := P) t w
  simp only [execOp, Option.map_none, Sem.run_bind, this, Result.andThen_ok, Sem.run_pure]
theorem wpList_lookup (hT : SetT P t k b n) {l : List (Arr n)} {x : Arr n} {g : Nat} (hH : Holds w0 S bs rows w) {o1 o2 : Operand} (h1 : a.eval o1 = .map (some g)) (h2 : a.eval o2 = x.val) (ho : Own bs g (mapObj l))
    (hg : Region.wanted { dst := dst, op := .lookup t o1 o2 false, type := ty, pos := pos, after := after, guard := guard } (yielded ops a.tmps) = true)
    (h : wpList P ops Q rest (a.put dst (.bool (l.contains x))) w) :
    wpList P ops Q ({ dst := dst, op := .lookup t o1 o2 false, type := ty, pos := pos, after := after, guard := guard } :: rest) a w := by
  refine wpList_ex hg ?_ h
  have := run_set_lookup hT l x (hH.at ho)
  simp only [execOp, h1, h2, Sem.run_bind, this, Result.andThen_ok, Sem.run_pure]
theorem wpList_mapUpdate (hT : SetT P t k b n) {l : List (Arr n)} {x : Arr n} {g : Nat} (hH : Holds w0 S bs rows w) (hx : x ∉ l) {o1 o2 o3 : Operand} (h1 : a.eval o1 = .map (some g)) (h2 : a.eval o2 = x.val) (h3 : a.eval o3 = .bool true) (ht : Turn bs g (mapObj l) (mapObj (l ++ [x])) bs')
    (hg : Region.wanted { dst := dst, op := .mapUpdate t o1 o2 o3, type := ty, pos := pos, after := after, guard := guard } (yielded ops a.tmps) = true)
    (h : ∀ w', Holds w0 S bs' rows w' → wpList P ops Q rest (a.put dst undef) w') :
    wpList P ops Q ({ dst := dst, op := .mapUpdate t o1 o2 o3, type := ty, pos := pos, after := after, guard := guard } :: rest) a w := by
  obtain ⟨w', hr, ha, hos, hta, hout, hsz, hk⟩ := run_set_update hT l x hx (hH.at ht.own)
  refine wpList_exskip hg (w' := w') ?_ (h _ (hH.turn ht ha hos hta hout hsz hk))
  simp only [execOp, h1, h2, h3, Sem.run_bind, hr, Result.andThen_ok, Sem.run_pure]
end
end
/-- A call that turned one block of its caller's, and laid new ones. -/
structure Turned (g : Nat) (o : Obj) (w w' : World) : Prop where
  os : w'.os = w.os
  tape : w'.tape = w.tape
  output : w'.output = w.output
  size : w.heap.size ≤ w'.heap.size
  blk : w'.heap[g]? = some o
  old : ∀ k, k < w.heap.size → k ≠ g → w'.heap[k]? = w.heap[k]?
theorem Holds.turned {w w' : World} {g : Nat} {o : Obj} {bs : List (Nat × Obj)} {rows : List Row} (h : Holds w [g] bs rows w') (ho : Own bs g o) : Turned g o w w' :=
  ⟨h.os, h.tape, h.output, h.size, h.at ho, fun k hk hne => h.old k hk (by simpa using hne)⟩
theorem Holds.turnedBy {w0 w w' : World} {S : List Nat} {bs bs' : List (Nat × Obj)} {rows : List Row} {g : Nat} {o o' : Obj} (h : Holds w0 S bs rows w) (ht : Turn bs g o o' bs') (hw : Turned g o' w w') : Holds w0 S bs' rows w' :=
  h.turn ht hw.blk hw.os hw.tape hw.output hw.size hw.old
/-- A call that was handed one block of its caller's. -/
theorem Holds.initS {w : World} {g : Nat} {o : Obj} (h : w.heap[g]? = some o) : Holds w [g] [(g, o)] [] w :=
  ⟨rfl, rfl, rfl, Nat.le_refl _, fun _ _ _ => rfl, by simpa using h, by simp, by simp, by simp, by simpa using (Array.getElem?_eq_some_iff.1 h).1⟩
end Go.Proofs.Ytohdkmgnnncpkaa
