/- has, Check of the reference; Index, Contains, Parent. Condition: lists whose length is an int. -/
import Derived.KernelRfl
import Derived.WalkKit
import Derived.WalkSpells
import Derived.WalkLawsBesides
import Derived.Deep.QuietTactic
import Derived.BigQuiet
import Derived.Outline
import Derived.ProofKit
import Derived.SizedLaws
import Derived.Deep.Slices
import Derived.Test.YtohdkmgnnncpkaaProg
import Derived.Test.YtohdkmgnnncpkaaRows
import Derived.RangeFuncFrom
import Derived.RangeFuncLeaves
import Derived.RangeFuncBound
import Derived.RangeFuncCalls
import Derived.OrdersIn
import Derived.Lib.UnsafeStr
import Derived.Lib.Builder
import Derived.Laws.IdiomStrings
import Derived.Laws.Small
import Derived.Lib.SlBytesConst
import Derived.Lib.Bytealg
import Derived.Laws.CopyRow
import Derived.Lib.SliceRun
import Derived.WideKeyArr2
import Derived.ChangeSlices
import Derived.ChangeMaps4
import Derived.Carry
set_option linter.unusedSimpArgs false
set_option linter.unusedVariables false
/- General facts, over any program: arrays of bytes as values, slices that are read, the memory that a call owns. No condition. -/
namespace Go.Proofs.Ytohdkmgnnncpkaa
open Go.RowKit

theorem hid {p : Prop} (h : p) : RowKit.Hid p := h

/-- A byte as a cell. -/
def byt (b : UInt8) : Value := .int .u8 (b.toNat : Int)
/-- An array of n bytes. -/
abbrev Arr (n : Nat) := {l : List UInt8 // l.length = n}
def Arr.cells {n : Nat} (x : Arr n) : List Value := x.1.map byt
def Arr.val {n : Nat} (x : Arr n) : Value := .agg x.cells.toArray
theorem Arr.len {n : Nat} (x : Arr n) : x.cells.length = n := by simp [Arr.cells, x.2]
def flat {n : Nat} (l : List (Arr n)) : List Value := l.flatMap Arr.cells
theorem flat_nil {n : Nat} : flat ([] : List (Arr n)) = [] := rfl
theorem flat_cons {n : Nat} (x : Arr n) (l : List (Arr n)) : flat (x :: l) = x.cells ++ flat l := rfl
theorem flat_append {n : Nat} (l m : List (Arr n)) : flat (l ++ m) = flat l ++ flat m := by simp [flat]
theorem flat_len {n : Nat} (l : List (Arr n)) : (flat l).length = l.length * n := by
  induction l with
  | nil => simp [flat]
  | cons x l ih => rw [flat_cons, List.length_append, Arr.len, ih, List.length_cons, Nat.add_mul]; omega
theorem flat_get {n : Nat} (l : List (Arr n)) : ∀ (k : Nat) (h : k < l.length) (j : Nat), j < n → (flat l)[k * n + j]? = (l[k]).cells[j]? := by
  induction l with
  | nil => intro k h; simp at h
  | cons x l ih =>
    intro k h j hj
    rw [flat_cons]
    cases k with
    | zero => rw [List.getElem?_append_left (by rw [Arr.len]; omega)]; simp
    | succ k =>
      rw [List.getElem?_append_right (by rw [Arr.len, Nat.add_mul]; omega), Arr.len]
      rw [show (k + 1) * n + j - n = k * n + j by rw [Nat.add_mul]; omega, ih k (by simpa using h) j hj]
      rfl
theorem flat_take {n : Nat} (l : List (Arr n)) (k : Nat) : (flat l).take (k * n) = flat (l.take k) := by
  induction l generalizing k with
  | nil => simp [flat]
  | cons x l ih =>
    cases k with
    | zero => simp [flat]
    | succ k =>
      rw [flat_cons, List.take_succ_cons, flat_cons, ← ih, List.take_append, Arr.len]
      rw [List.take_of_length_le (by rw [Arr.len, Nat.add_mul]; omega), show (k + 1) * n - n = k * n by rw [Nat.add_mul]; omega]
theorem flat_drop {n : Nat} (l : List (Arr n)) (k : Nat) : (flat l).drop (k * n) = flat (l.drop k) := by
  induction l generalizing k with
  | nil => simp [flat]
  | cons x l ih =>
    cases k with
    | zero => simp [flat]
    | succ k =>
      rw [flat_cons, List.drop_succ_cons, ← ih, List.drop_append, Arr.len]
      rw [List.drop_eq_nil_of_le (by rw [Arr.len, Nat.add_mul]; omega), List.nil_append, show (k + 1) * n - n = k * n by rw [Nat.add_mul]; omega]
theorem cells_one {n : Nat} (x : Arr n) : ∀ u ∈ x.cells, u.oneCell' = true := by
  intro u hu; simp only [Arr.cells, List.mem_map] at hu; obtain ⟨b, _, rfl⟩ := hu; rfl
theorem flat_cell1 {n : Nat} (l : List (Arr n)) : ∀ u ∈ flat l, u.oneCell' = true := by
  intro u hu; simp only [flat, List.mem_flatMap] at hu; obtain ⟨x, _, hx⟩ := hu; exact cells_one x u hx
theorem Arr.ne_of {n : Nat} {x y : Arr n} (h : (!(x == y)) = true) : x ≠ y := by
  intro e; subst e; simp at h
theorem Arr.eq_of {n : Nat} {x y : Arr n} (h : (!(x == y)) = false) : x = y := by
  apply Subtype.ext; simpa using h
def Arr.zero (n : Nat) : Arr n := ⟨List.replicate n 0, by simp⟩

/-- The slice value v has n elements of sz cells each, which hold cs. -/
def Sl (w : World) (v : Value) (sz n : Nat) (cs : List Value) : Prop :=
  ∃ ao cap, v = .slice ao n cap ∧ n ≤ cap ∧ cs.length = n * sz ∧ ∀ j u, cs[j]? = some u → ∃ a, ao = some a ∧ w.cell? (a.add j) = some u
theorem Sl.keep {w w' : World} {v : Value} {sz n : Nat} {cs : List Value} (h : Sl w v sz n cs) (hk : ∀ k, k < w.heap.size → w'.heap[k]? = w.heap[k]?) : Sl w' v sz n cs := by
  obtain ⟨ao, cap, rfl, hle, hl, hc⟩ := h
  refine ⟨ao, cap, rfl, hle, hl, fun j u hu => ?_⟩
  obtain ⟨a, ha, hcell⟩ := hc j u hu
  exact ⟨a, ha, (World.cell?_of_block (hk _ (World.block_lt_of_cell? w _ hcell))).trans hcell⟩
theorem Sl.below {w w' : World} {v : Value} {sz n : Nat} {cs : List Value} (h : Sl w v sz n cs) (hb : Below w.heap.size w w') : Sl w' v sz n cs := h.keep hb.block
theorem Sl.same {w w' : World} {v : Value} {sz n : Nat} {cs : List Value} (h : Sl w v sz n cs) (hb : w'.heap = w.heap) : Sl w' v sz n cs := h.keep fun _ _ => by rw [hb]
theorem Sl.nil (w : World) (sz : Nat) : Sl w (.slice none 0 0) sz 0 [] := ⟨none, 0, rfl, Nat.le_refl _, by simp, by simp⟩
theorem Sl.of_row {w : World} {base : Nat} {e : TypeId} {sz n : Nat} {v : Value} {xs : List Value} (h : w.ownsRow base e sz v n xs) : Sl w v sz n xs := by
  rcases h.2 with ⟨rfl, rfl⟩ | ⟨g, cap, cur, rfl, hb, hg, hn, hm, hs, ht⟩
  · have : xs = [] := List.eq_nil_of_length_eq_zero (by simpa using h.1)
    subst this
    exact Sl.nil w sz
  · refine ⟨_, _, rfl, hn, h.1, fun j u hu => ⟨_, rfl, ?_⟩⟩
    have := h.cells (g := g) rfl j u hu
    exact this
/-- The elements from k on. -/
theorem Sl.cell {w : World} {a : Addr} {cap sz n : Nat} {cs : List Value} (h : Sl w (.slice (some a) n cap) sz n cs) (j : Nat) (u : Value) (hu : cs[j]? = some u) : w.cell? (a.add j) = some u := by
  obtain ⟨ao, cap', e, _, hl, hc⟩ := h
  simp only [Value.slice.injEq] at e
  obtain ⟨rfl, _, _⟩ := e
  obtain ⟨a', e, hh⟩ := hc j u hu
  cases e
  exact hh
theorem Sl.some {w : World} {v : Value} {sz n : Nat} {cs : List Value} (h : Sl w v sz n cs) (h0 : 0 < n * sz) : ∃ a cap, v = .slice (some a) n cap := by
  obtain ⟨ao, cap, rfl, _, hl, hc⟩ := h
  have : 0 < cs.length := by omega
  obtain ⟨a, rfl, _⟩ := hc 0 cs[0] (by simp [this])
  exact ⟨a, cap, rfl⟩

theorem Sl.shape {w : World} {v : Value} {sz n : Nat} {cs : List Value} (h : Sl w v sz n cs) : ∃ ao cap, v = .slice ao n cap ∧ n ≤ cap := by
  obtain ⟨ao, cap, rfl, hle, _⟩ := h
  exact ⟨ao, cap, rfl, hle⟩
theorem Sl.cap {w : World} {ao : Option Addr} {sz n m cap : Nat} {cs : List Value} (h : Sl w (.slice ao m cap) sz n cs) : m = n ∧ n ≤ cap := by
  obtain ⟨ao', cap', e, hle, _⟩ := h
  simp only [Value.slice.injEq] at e
  omega

structure Row where
  v : Value
  e : TypeId
  sz : Nat
  n : Nat
  xs : List Value
/-- Since the world w0 the blocks of w0 have not turned (but for those in S); the call's own blocks bs and rows are as said, and lie apart. -/
structure Holds (w0 : World) (S : List Nat) (bs : List (Nat × Obj)) (rows : List Row) (w : World) : Prop where
  os : w.os = w0.os
  tape : w.tape = w0.tape
  output : w.output = w0.output
  size : w0.heap.size ≤ w.heap.size
  old : ∀ k, k < w0.heap.size → k ∉ S → w.heap[k]? = w0.heap[k]?
  blk : ∀ p ∈ bs, w.heap[p.1]? = some p.2
  frs : ∀ p ∈ bs, w0.heap.size ≤ p.1 ∨ p.1 ∈ S
  row : ∀ r ∈ rows, w.ownsRow w0.heap.size r.e r.sz r.v r.n r.xs
  sep : (bs.map (·.1) ++ rows.filterMap (·.v.ownBlock)).Nodup
  inS : ∀ k ∈ S, k < w0.heap.size
theorem Holds.init (w : World) : Holds w [] [] [] w := ⟨rfl, rfl, rfl, Nat.le_refl _, fun _ _ _ => rfl, by simp, by simp, by simp, by simp, by simp⟩
theorem Holds.below {w0 w : World} {bs : List (Nat × Obj)} {rows : List Row} (h : Holds w0 [] bs rows w) : Below w0.heap.size w0 w :=
  ⟨h.os, h.tape, h.output, h.size, fun k hk => h.old k hk (by simp)⟩
section
variable {w0 w w' : World} {S : List Nat} {bs : List (Nat × Obj)} {rows : List Row}
theorem Holds.lt (h : Holds w0 S bs rows w) {p : Nat × Obj} (hp : p ∈ bs) : p.1 < w.heap.size := (Array.getElem?_eq_some_iff.1 (h.blk p hp)).1
theorem Holds.rowlt (h : Holds w0 S bs rows w) {r : Row} (hr : r ∈ rows) : ∀ k, r.v.ownBlock = some k → w0.heap.size ≤ k ∧ k < w.heap.size := (h.row r hr).lt
/-- Whatever leaves all blocks of w alone. -/
theorem Holds.grow (h : Holds w0 S bs rows w) (hb : Below w.heap.size w w') : Holds w0 S bs rows w' :=
  ⟨hb.os.trans h.os, hb.tape.trans h.tape, hb.output.trans h.output, Nat.le_trans h.size hb.size,
   fun k hk hn => (hb.block k (Nat.lt_of_lt_of_le hk h.size)).trans (h.old k hk hn),
   fun p hp => (hb.block _ (h.lt hp)).trans (h.blk p hp), h.frs,
   fun r hr => by
     refine ⟨(h.row r hr).1, ?_⟩
     rcases (h.row r hr).2 with hn | ⟨g, cap, cur, hv, hg, hh, rest⟩
     · exact .inl hn
     · exact .inr ⟨g, cap, cur, hv, hg, (hb.block g (Array.getElem?_eq_some_iff.1 hh).1).trans hh, rest⟩,
   h.sep, h.inS⟩
theorem below_drew (w : World) : Below w.heap.size w w.drew := (Below.refl _ _).drew
theorem Holds.drew (h : Holds w0 S bs rows w) : Holds w0 S bs rows w.drew := h.grow (below_drew w)
theorem below_alloc (w : World) (o : Obj) : Below w.heap.size w (w.alloc o) := (Below.refl _ _).alloc (Nat.le_refl _) o
/-- A new block of the call's own. -/
theorem Holds.alloc (h : Holds w0 S bs rows w) (o : Obj) : Holds w0 S ((w.heap.size, o) :: bs) rows (w.alloc o) := by
  have hg := h.grow (below_alloc w o)
  refine ⟨hg.os, hg.tape, hg.output, hg.size, hg.old, ?_, ?_, hg.row, ?_, h.inS⟩
  · intro p hp
    rcases List.mem_cons.1 hp with rfl | hp
    · exact heap_alloc_new w o
    · exact hg.blk p hp
  · intro p hp
    rcases List.mem_cons.1 hp with rfl | hp
    · exact .inl h.size
    · exact h.frs p hp
  · rw [List.map_cons, List.cons_append, List.nodup_cons]
    refine ⟨fun hm => ?_, h.sep⟩
    rcases List.mem_append.1 hm with hm | hm
    · obtain ⟨p, hp, e⟩ := List.mem_map.1 hm
      have := h.lt hp
      simp only at e; omega
    · obtain ⟨r, hr, e⟩ := List.mem_filterMap.1 hm
      have := (h.rowlt hr _ e).2
      simp only at this; omega
/-- Some block of the call's own turns. -/
theorem Holds.set (h : Holds w0 S bs rows w) {g : Nat} {o o' : Obj} {pre post : List (Nat × Obj)} (hbs : bs = pre ++ (g, o) :: post)
    (hw : w'.heap[g]? = some o') (hos : w'.os = w.os) (ht : w'.tape = w.tape) (hout : w'.output = w.output) (hsz : w.heap.size ≤ w'.heap.size)
    (hk : ∀ k, k < w.heap.size → k ≠ g → w'.heap[k]? = w.heap[k]?) : Holds w0 S (pre ++ (g, o') :: post) rows w' := by
  subst hbs
  have hnd := h.sep
  have hgm : (g, o) ∈ pre ++ (g, o) :: post := by simp
  have hne : ∀ p ∈ pre ++ post, p.1 ≠ g := by
    intro p hp e
    have h1 : ((pre ++ (g, o) :: post).map (·.1)).Nodup := (List.nodup_append.1 hnd).1
    rw [List.map_append, List.map_cons] at h1
    have h2 := List.nodup_append.1 h1
    rcases List.mem_append.1 hp with hp | hp
    · exact h2.2.2 p.1 (List.mem_map.2 ⟨p, hp, rfl⟩) g (by simp) e
    · exact (List.nodup_cons.1 h2.2.1).1 (by rw [← e]; exact List.mem_map.2 ⟨p, hp, rfl⟩)
  have hrne : ∀ r ∈ rows, ∀ k, r.v.ownBlock = some k → k ≠ g := by
    intro r hr k hkb e
    subst e
    exact (List.nodup_append.1 hnd).2.2 k (List.mem_map.2 ⟨_, hgm, rfl⟩) k (List.mem_filterMap.2 ⟨r, hr, hkb⟩) rfl
  refine ⟨hos.trans h.os, ht.trans h.tape, hout.trans h.output, Nat.le_trans h.size hsz, ?_, ?_, ?_, ?_, ?_, h.inS⟩
  · intro k hk' hn
    have hkg : k ≠ g := by
      intro e; subst e
      rcases h.frs _ hgm with hf | hf
      · simp only at hf; omega
      · exact hn hf
    exact (hk k (Nat.lt_of_lt_of_le hk' h.size) hkg).trans (h.old k hk' hn)
  · intro p hp
    have : p ∈ pre ++ post ∨ p = (g, o') := by
      rcases List.mem_append.1 hp with hp | hp
      · exact .inl (List.mem_append.2 (.inl hp))
      · rcases List.mem_cons.1 hp with hp | hp
        · exact .inr hp
        · exact .inl (List.mem_append.2 (.inr hp))
    rcases this with hp' | rfl
    · have hp2 : p ∈ pre ++ (g, o) :: post := by
        rcases List.mem_append.1 hp' with a | a
        · exact List.mem_append.2 (.inl a)
        · exact List.mem_append.2 (.inr (List.mem_cons_of_mem _ a))
      exact (hk _ (h.lt hp2) (hne p hp')).trans (h.blk p hp2)
    · exact hw
  · intro p hp
    rcases List.mem_append.1 hp with a | a
    · exact h.frs p (List.mem_append.2 (.inl a))
    · rcases List.mem_cons.1 a with rfl | a
      · exact h.frs (g, o) hgm
      · exact h.frs p (List.mem_append.2 (.inr (List.mem_cons_of_mem _ a)))
  · intro r hr
    refine ⟨(h.row r hr).1, ?_⟩
    rcases (h.row r hr).2 with hn | ⟨b, cap, cur, hv, hb, hh, rest⟩
    · exact .inl hn
    · refine .inr ⟨b, cap, cur, hv, hb, ?_, rest⟩
      rw [hk b (Array.getElem?_eq_some_iff.1 hh).1 (hrne r hr b (by rw [hv]; rfl))]
      exact hh
  · simpa using hnd
/-- A row that a callee handed back. -/
theorem Holds.addRow (h : Holds w0 S bs rows w) (hb : Below w.heap.size w w') {e : TypeId} {sz n : Nat} {v : Value} {xs : List Value} (hr : w'.ownsRow w.heap.size e sz v n xs) :
    Holds w0 S bs (⟨v, e, sz, n, xs⟩ :: rows) w' := by
  have hg := h.grow hb
  refine ⟨hg.os, hg.tape, hg.output, hg.size, hg.old, hg.blk, hg.frs, ?_, ?_, h.inS⟩
  · intro r hr'
    rcases List.mem_cons.1 hr' with rfl | hr'
    · refine ⟨hr.1, ?_⟩
      rcases hr.2 with hn | ⟨g, cap, cur, hv, hgb, rest⟩
      · exact .inl hn
      · exact .inr ⟨g, cap, cur, hv, Nat.le_trans h.size hgb, rest⟩
    · exact hg.row r hr'
  · cases hv : v.ownBlock with
    | none => simpa [List.filterMap_cons, hv] using h.sep
    | some g =>
      have hlt := (hr.lt g hv).1
      simp only [List.filterMap_cons, hv]
      have h1 := h.sep
      rw [List.nodup_append] at h1 ⊢
      refine ⟨h1.1, List.nodup_cons.2 ⟨fun hm => ?_, h1.2.1⟩, ?_⟩
      · obtain ⟨r, hr', e⟩ := List.mem_filterMap.1 hm
        have := (h.rowlt hr' _ e).2
        omega
      · intro a ha b hb' e
        subst e
        rcases List.mem_cons.1 hb' with rfl | hb'
        · obtain ⟨p, hp, e⟩ := List.mem_map.1 ha
          have := h.lt hp
          omega
        · exact h1.2.2 a ha a hb' rfl
/-- The first row turns, by a law that ends in 'grownBy'. -/
theorem Holds.grownRow {r : Row} (h : Holds w0 S bs (r :: rows) w) {v' : Value} {n' : Nat} {xs' : List Value} (hg : w.grownBy w' r.v.ownBlock)
    (hv : r.v.ownBlock = v'.ownBlock ∨ ∀ k, v'.ownBlock = some k → w.heap.size ≤ k) (ho : w'.ownsRow w0.heap.size r.e r.sz v' n' xs') : Holds w0 S bs (⟨v', r.e, r.sz, n', xs'⟩ :: rows) w' := by
  have hsep := h.sep
  have hrlt := h.rowlt (List.mem_cons_self)
  have hbne : ∀ p ∈ bs, r.v.ownBlock ≠ some p.1 := by
    intro p hp e
    exact (List.nodup_append.1 hsep).2.2 p.1 (List.mem_map.2 ⟨p, hp, rfl⟩) p.1 (List.mem_filterMap.2 ⟨r, by simp, e⟩) rfl
  have hrne : ∀ q ∈ rows, ∀ k, q.v.ownBlock = some k → r.v.ownBlock ≠ some k := by
    intro q hq k hk e
    have h2 := (List.nodup_append.1 hsep).2.1
    rw [List.filterMap_cons, e] at h2
    exact (List.nodup_cons.1 h2).1 (List.mem_filterMap.2 ⟨q, hq, hk⟩)
  refine ⟨hg.os.trans h.os, hg.tape.trans h.tape, hg.output.trans h.output, Nat.le_trans h.size hg.size, ?_, ?_, h.frs, ?_, ?_, h.inS⟩
  · intro k hk hn
    refine (hg.block k (Nat.lt_of_lt_of_le hk h.size) ?_).trans (h.old k hk hn)
    intro e
    have := (hrlt k e.symm).1
    omega
  · intro p hp
    exact (hg.block _ (h.lt hp) (fun e => hbne p hp e.symm)).trans (h.blk p hp)
  · intro q hq
    rcases List.mem_cons.1 hq with rfl | hq
    · exact ho
    · have hq' := h.row q (List.mem_cons_of_mem _ hq)
      refine ⟨hq'.1, ?_⟩
      rcases hq'.2 with hn | ⟨g, cap, cur, hv', hgb, hh, rest⟩
      · exact .inl hn
      · refine .inr ⟨g, cap, cur, hv', hgb, ?_, rest⟩
        rw [hg.block g (Array.getElem?_eq_some_iff.1 hh).1 (fun e => hrne q hq g (by rw [hv']; rfl) e.symm)]
        exact hh
  · have h0 : (bs.map (·.1) ++ rows.filterMap (·.v.ownBlock)).Nodup := by
      rw [List.filterMap_cons] at hsep
      split at hsep
      · exact hsep
      · rw [List.nodup_append] at hsep ⊢
        exact ⟨hsep.1, (List.nodup_cons.1 hsep.2.1).2, fun a ha b hb => hsep.2.2 a ha b (List.mem_cons_of_mem _ hb)⟩
    rw [List.filterMap_cons]
    cases hvo : v'.ownBlock with
    | none => exact h0
    | some g =>
      simp only
      rw [List.nodup_append] at h0 ⊢
      have key : (∀ p ∈ bs, p.1 ≠ g) ∧ (∀ q ∈ rows, q.v.ownBlock ≠ some g) := by
        rcases hv with e | e
        · rw [hvo] at e
          exact ⟨fun p hp e' => hbne p hp (by rw [e, e']), fun q hq e' => hrne q hq g e' e⟩
        · have := e g hvo
          refine ⟨fun p hp e' => ?_, fun q hq e' => ?_⟩
          · have := h.lt hp; omega
          · have := (h.rowlt (List.mem_cons_of_mem _ hq) g e').2; omega
      refine ⟨h0.1, List.nodup_cons.2 ⟨fun hm => ?_, h0.2.1⟩, ?_⟩
      · obtain ⟨q, hq, e⟩ := List.mem_filterMap.1 hm
        exact key.2 q hq e
      · intro a ha b hb e
        subst e
        rcases List.mem_cons.1 hb with rfl | hb
        · obtain ⟨p, hp, e⟩ := List.mem_map.1 ha
          exact key.1 p hp e
        · exact h0.2.2 a ha a hb rfl
theorem Holds.dropRow {r : Row} (h : Holds w0 S bs (r :: rows) w) : Holds w0 S bs rows w := by
  refine ⟨h.os, h.tape, h.output, h.size, h.old, h.blk, h.frs, fun q hq => h.row q (List.mem_cons_of_mem _ hq), ?_, h.inS⟩
  have hsep := h.sep
  rw [List.filterMap_cons] at hsep
  split at hsep
  · exact hsep
  · rw [List.nodup_append] at hsep ⊢
    exact ⟨hsep.1, (List.nodup_cons.1 hsep.2.1).2, fun a ha b hb => hsep.2.2 a ha b (List.mem_cons_of_mem _ hb)⟩
theorem Holds.swap {r q : Row} (h : Holds w0 S bs (r :: q :: rows) w) : Holds w0 S bs (q :: r :: rows) w := by
  refine ⟨h.os, h.tape, h.output, h.size, h.old, h.blk, h.frs, fun x hx => h.row x ?_, ?_, h.inS⟩
  · simp only [List.mem_cons] at hx ⊢
    rcases hx with a | a | a
    · exact .inr (.inl a)
    · exact .inl a
    · exact .inr (.inr a)
  · exact (List.Perm.nodup_iff (List.Perm.append_left _ (List.Perm.filterMap _ (List.Perm.swap q r rows)))).1 h.sep
theorem Holds.dropSnd {r q : Row} (h : Holds w0 S bs (r :: q :: rows) w) : Holds w0 S bs (r :: rows) w := h.swap.dropRow
theorem Holds.dropBlk {p : Nat × Obj} (h : Holds w0 S (p :: bs) rows w) : Holds w0 S bs rows w := by
  refine ⟨h.os, h.tape, h.output, h.size, h.old, fun q hq => h.blk q (List.mem_cons_of_mem _ hq), fun q hq => h.frs q (List.mem_cons_of_mem _ hq), h.row, ?_, h.inS⟩
  have hsep := h.sep
  rw [List.map_cons, List.cons_append] at hsep
  exact (List.nodup_cons.1 hsep).2
/-- What was read in the first world reads so still. -/
theorem Holds.sl (h : Holds w0 [] bs rows w) {v : Value} {sz n : Nat} {cs : List Value} (hs : Sl w0 v sz n cs) : Sl w v sz n cs := hs.keep fun k hk => h.old k hk (by simp)
theorem Holds.slrow (h : Holds w0 S bs rows w) {r : Row} (hr : r ∈ rows) : Sl w r.v r.sz r.n r.xs := Sl.of_row (h.row r hr)
theorem Holds.sl0 {v : Value} {e : TypeId} {sz n : Nat} {xs : List Value} (h : Holds w0 S bs (⟨v, e, sz, n, xs⟩ :: rows) w) : Sl w v sz n xs := h.slrow List.mem_cons_self
theorem Holds.own0 {v : Value} {e : TypeId} {sz n : Nat} {xs : List Value} (h : Holds w0 S bs (⟨v, e, sz, n, xs⟩ :: rows) w) : w.ownsRow w0.heap.size e sz v n xs := h.row _ List.mem_cons_self
end
end Go.Proofs.Ytohdkmgnnncpkaa

/- General facts, over any program: the operations on arrays of bytes, on slices of them and on the call's own memory. No condition. -/
namespace Go.Proofs.Ytohdkmgnnncpkaa
open Go.RowKit
section
variable {P : Program}

theorem wpList_ex {ops : Array Oper} {rest : List Oper} {o : Oper} {a : Act} {w w' : World} {v : Value} {Q : Exit → Act → World → Prop} (hg : Region.wanted o (yielded ops a.tmps) = true)
    (hr : (execOp a.eval o).run P w = .ok (.value v) w') (h : wpList P ops Q rest (a.put o.dst v) w') : wpList P ops Q (o :: rest) a w :=
  wpList_step fun K hK => by rw [if_pos hg]; unfold Oper.wp; rw [hr]; exact hK _ _ h
theorem wpList_exskip {ops : Array Oper} {rest : List Oper} {o : Oper} {a : Act} {w w' : World} {Q : Exit → Act → World → Prop} (hg : Region.wanted o (yielded ops a.tmps) = true)
    (hr : (execOp a.eval o).run P w = .ok .skip w') (h : wpList P ops Q rest (a.put o.dst undef) w') : wpList P ops Q (o :: rest) a w :=
  wpList_step fun K hK => by rw [if_pos hg]; unfold Oper.wp; rw [hr]; exact hK _ _ h
theorem wpQuiet_ex {ops : Array Oper} {rest : List Oper} {o : Oper} {a : Act} {C : World → Prop} {v : Value} {Q : Act → Prop} (hg : Region.wanted o (yielded ops a.tmps) = true)
    (hr : ∀ w, C w → (execOp a.eval o).run P w = .ok (.value v) w) (h : wpQuiet P ops C Q rest (a.put o.dst v)) : wpQuiet P ops C Q (o :: rest) a :=
  wpQuiet_step fun K hK => by
    rw [if_pos hg]
    exact ⟨v, fun w hw => by unfold Oper.quietAt; rw [hr w hw]; exact ⟨rfl, rfl⟩, hK _ h⟩
/-- A struct's or an array's type. -/
def aggD : TypeDesc → Bool | .struct _ | .array _ _ => true | _ => false
theorem run_loadVar_agg {t : TypeId} {d : TypeDesc} (hu : P.underlying t = some d) (hd : aggD d = true) {sz : Nat}
    (hi : (P.info? t).map (·.size) = some sz) {ad : Addr} {cs : List Value} (hl : cs.length = sz) {w : World} (hc : ∀ j u, cs[j]? = some u → w.cell? (ad.add j) = some u) :
    (loadVar t ad).run P w = .ok (.agg cs.toArray) w := by
  have h1 : (isAgg t).run P w = .ok true w := by
    simp only [isAgg, Sem.run_bind, run_underlying hu, Result.andThen_ok]
    cases d <;> simp_all [aggD]
  have h2 : (sizeOf t).run P w = .ok sz w := by
    simp only [sizeOf, typeInfo, Sem.run_bind, run_program, Result.andThen_ok]
    cases hh : P.info? t with
    | none => rw [hh] at hi; simp at hi
    | some i => rw [hh] at hi; simp at hi; simp [hi]
  simp only [loadVar, Sem.run_bind, h1, Result.andThen_ok, if_true, h2]
  rw [← hl, run_loadCells_list w ad cs hc]
  rfl
theorem ex_load_agg {ρ : Operand → Value} {dst : Option Tmp} {t ty : TypeId} {x : Operand} {pos : String} {after : Array Edge} {guard : Option (Nat × Bool)} {ad : Addr} (hx : ρ x = .pointer (some ad))
    {d : TypeDesc} (hu : P.underlying t = some d) (hd : aggD d = true) {sz : Nat}
    (hi : (P.info? t).map (·.size) = some sz) {cs : List Value} (hl : cs.length = sz) {w : World} (hc : ∀ j u, cs[j]? = some u → w.cell? (ad.add j) = some u) :
    (execOp ρ { dst := dst, op := .load t x, type := ty, pos := pos, after := after, guard := guard }).run P w = .ok (.value (.agg cs.toArray)) w := by
  simp only [execOp, hx, Instr.loadAt, Instr.sureAddr, Sem.run_bind, Sem.run_pure, Result.andThen_ok, run_loadVar_agg hu hd hi hl hc]
theorem ex_load_one {ρ : Operand → Value} {dst : Option Tmp} {t ty : TypeId} {x : Operand} {pos : String} {after : Array Edge} {guard : Option (Nat × Bool)} {ad : Addr} (hx : ρ x = .pointer (some ad))
    {d : TypeDesc} (hu : P.underlying t = some d) (hd : aggD d = false) {v : Value} {w : World} (hc : w.cell? ad = some v) :
    (execOp ρ { dst := dst, op := .load t x, type := ty, pos := pos, after := after, guard := guard }).run P w = .ok (.value v) w := by
  have h1 : (isAgg t).run P w = .ok false w := by
    simp only [isAgg, Sem.run_bind, run_underlying hu, Result.andThen_ok]
    cases d <;> simp_all [aggD]
  simp only [execOp, hx, Instr.loadAt, Instr.sureAddr, Sem.run_bind, Sem.run_pure, Result.andThen_ok, loadVar, h1, Bool.false_eq_true, if_false, run_load, hc]

theorem eq_loop {e : TypeId} {d : Nat} {k : IntKind} (he : P.underlying e = some (.int k)) {w : World} {sz : Nat} (hsz : sz = 1) (xs ys : List UInt8) (hl : xs.length = ys.length) (cx cy : Array Value) (px : List UInt8) (py : List UInt8) (hp : px.length = py.length)
    (hx : cx = ((px ++ xs).map byt).toArray) (hy : cy = ((py ++ ys).map byt).toArray) :
    (forIn (m := Sem) (List.range' px.length xs.length) ((none, ()) : Option Bool × Unit) fun i _ => do
        let p ← part e cx (i * sz)
        let q ← part e cy (i * sz)
        let r ← Op.equalIn (d + 1) e p q
        if (!r) = true then pure (.done (some false, ())) else pure (.yield (none, ()))).run P w =
      .ok (if xs = ys then (none, ()) else (some false, ())) w := by
  subst hsz
  have hagg : ∀ w, (isAgg e).run P w = .ok false w := fun w => by simp [isAgg, run_underlying he]
  have hpart : ∀ (c : Array Value) (i : Nat) (v : Value) (w : World), c[i]? = some v → (part e c i).run P w = .ok v w := fun c i v w h => by
    simp only [part, Sem.run_bind, hagg, Result.andThen_ok, Bool.false_eq_true, if_false, h, Sem.run_pure]
  induction xs generalizing ys px py with
  | nil =>
    have : ys = [] := List.eq_nil_of_length_eq_zero (by simpa using hl.symm)
    subst this
    simp
  | cons x xs ih =>
    match ys, hl with
    | y :: ys, hl =>
      have h1 : cx[px.length]? = some (byt x) := by subst hx; simp
      have h2 : cy[px.length]? = some (byt y) := by subst hy; rw [hp]; simp
      have heq : ∀ w, (Op.equalIn (d + 1) e (byt x) (byt y)).run P w = .ok (x == y) w := fun w => by
        have := run_equalIn_int (P := P) w d e .u8 k (x.toNat : Int) (y.toNat : Int) he
        unfold byt
        rw [this]
        congr 1
        rw [Bool.eq_iff_iff, beq_iff_eq, beq_iff_eq]
        constructor
        · intro h; exact UInt8.toNat_inj.1 (by omega)
        · intro h; rw [h]
      rw [List.length_cons, List.range'_succ]
      simp only [List.forIn_cons, Sem.run_bind, Nat.mul_one, hpart _ _ _ _ h1, hpart _ _ _ _ h2, Result.andThen_ok, heq, Sem.run_ite, Result.andThen_ite, Sem.run_pure]
      by_cases hxy : x = y
      · subst hxy
        have := ih ys (by simpa using hl) (px ++ [x]) (py ++ [x]) (by simpa using hp) (by subst hx; simp) (by subst hy; simp)
        simp only [Nat.mul_one, List.length_append, List.length_singleton] at this
        simp only [beq_self_eq_true, Bool.not_true, Bool.false_eq_true, if_false]
        rw [this]
        simp
      · have : (x == y) = false := by simpa using hxy
        simp [this, hxy]
theorem run_equalIn_arr {n : Nat} {t e : TypeId} {k : IntKind} (ht : P.underlying t = some (.array n e)) (he : P.underlying e = some (.int k)) (hs : (P.info? e).map (·.size) = some 1) (d : Nat) (x y : Arr n) (w : World) :
    (Op.equalIn (d + 1 + 1) t x.val y.val).run P w = .ok (x == y) w := by
  have h2 : (sizeOf e).run P w = .ok 1 w := by
    simp only [sizeOf, typeInfo, Sem.run_bind, run_program, Result.andThen_ok]
    cases hh : P.info? e with
    | none => rw [hh] at hs; simp at hs
    | some i => rw [hh] at hs; simp at hs; simp [hs]
  have := eq_loop (P := P) (d := d) he (w := w) rfl x.1 y.1 (by rw [x.2, y.2]) x.cells.toArray y.cells.toArray [] [] rfl (by simp [Arr.cells]) (by simp [Arr.cells])
  rw [x.2] at this
  rw [Op.equalIn]
  simp only [Arr.val, Sem.run_bind, run_underlying ht, Result.andThen_ok, h2, Std.Legacy.Range.forIn_eq_forIn_range', Std.Legacy.Range.size, Nat.sub_zero, Nat.add_sub_cancel, Nat.div_one]
  simp only [List.length_nil] at this
  rw [this]
  by_cases h : x.1 = y.1
  · have h' : x = y := Subtype.ext h
    simp [h']
  · have h' : (x == y) = false := by
      rw [beq_eq_false_iff_ne]; intro e; exact h (by rw [e])
    simp [h, h']
theorem ex_eql_arr {n : Nat} {t e : TypeId} {k : IntKind} (ht : P.underlying t = some (.array n e)) (he : P.underlying e = some (.int k)) (hs : (P.info? e).map (·.size) = some 1) (hgt : P.eqGuardType P.depth t = false)
    {ρ : Operand → Value} {dst : Option Tmp} {ty yt : TypeId} {x y : Operand} {pos : String} {after : Array Edge} {guard : Option (Nat × Bool)} {p q : Arr n} (hx : ρ x = p.val) (hy : ρ y = q.val) (w : World) :
    (execOp ρ { dst := dst, op := .binOp .eql t x y yt, type := ty, pos := pos, after := after, guard := guard }).run P w = .ok (.value (.bool (p == q))) w := by
  have hr := run_equalIn_arr (P := P) ht he hs 9998 p q w
  have hg := run_eqGuard_agg (P := P) w .eql t x y p.cells.toArray q.cells.toArray hgt
  have hb := run_eql_struct (P := P) w t p.cells.toArray q.cells.toArray
  unfold Arr.val at *
  simp only [execOp, hx, hy, Sem.run_bind, hg, Result.andThen_ok, hb, hr, Sem.run_pure]
theorem ex_neq_arr {n : Nat} {t e : TypeId} {k : IntKind} (ht : P.underlying t = some (.array n e)) (he : P.underlying e = some (.int k)) (hs : (P.info? e).map (·.size) = some 1) (hgt : P.eqGuardType P.depth t = false)
    {ρ : Operand → Value} {dst : Option Tmp} {ty yt : TypeId} {x y : Operand} {pos : String} {after : Array Edge} {guard : Option (Nat × Bool)} {p q : Arr n} (hx : ρ x = p.val) (hy : ρ y = q.val) (w : World) :
    (execOp ρ { dst := dst, op := .binOp .neq t x y yt, type := ty, pos := pos, after := after, guard := guard }).run P w = .ok (.value (.bool (!(p == q)))) w := by
  have hr := run_equalIn_arr (P := P) ht he hs 9998 p q w
  have hg := run_eqGuard_agg (P := P) w .neq t x y p.cells.toArray q.cells.toArray hgt
  have hb := run_neq_struct (P := P) w t p.cells.toArray q.cells.toArray
  unfold Arr.val at *
  simp only [execOp, hx, hy, Sem.run_bind, hg, Result.andThen_ok, hb, hr, Sem.run_pure]

theorem run_append_row {w : World} {base : Nat} (t ty e : TypeId) (i : TypeInfo) (z : Value) (sz bytes : Nat) (ht : P.underlying t = some (.slice e)) (hi : P.info? e = some i) (hz : i.zero = some z)
    (hsize : i.size = sz) (hby : i.bytes = bytes) (hzs : z.cells.size = sz) (hsz : 0 < sz)
    {v x : Value} {n m : Nat} {xs news : List Value} (hown : w.ownsRow base e sz v n xs) (hx : Sl w x sz m news) (h1 : ∀ u ∈ news, u.oneCell' = true)
    (h63 : n + m ≤ maxLen) (hbytes : (n + m) * bytes ≤ 140737488355328) (hbase : base ≤ w.heap.size) :
    ∃ v' w', (Builtin.append_ #[t, t] ty #[v, x]).run P w = .ok v' w' ∧ w'.ownsRow base e sz v' (n + m) (xs ++ news) ∧ w.grownBy w' v.ownBlock ∧
      (v.ownBlock = v'.ownBlock ∨ ∀ k, v'.ownBlock = some k → w.heap.size ≤ k) ∧ ((∃ ao, v = .slice ao n n) → Below w.heap.size w w') := by
  subst hsize hby
  obtain ⟨ao, c, rfl, _, hl, hc⟩ := hx
  have hlen : (xs ++ news).length = (n + m) * i.size := by rw [List.length_append, hown.1, hl, Nat.add_mul]
  have hsmall : n + m ≤ 9223372036854775807 := h63
  have grows : ∀ old, old < n + m → ∀ row,
      (w.drew.alloc (.cells (xs.toArray ++ news.toArray ++ Builtin.zeroCells z.cells (grownCap w (n + m) old e - (n + m))) e)).ownsRow base e i.size
        (.slice (some ⟨w.heap.size, 0, none⟩) (n + m) (grownCap w (n + m) old e)) (n + m) (xs ++ news) ∧
      w.grownBy (w.drew.alloc (.cells (xs.toArray ++ news.toArray ++ Builtin.zeroCells z.cells (grownCap w (n + m) old e - (n + m))) e)) row := by
    intro old _ row
    have hge := grownCap_ge w (n + m) old e
    have hle := grownCap_le_maxLen w (n + m) old e h63
    refine ⟨⟨hlen, .inr ⟨w.heap.size, _, _, rfl, hbase, heap_alloc_new w.drew _, hge, hle, ?_, ?_⟩⟩, ⟨rfl, rfl, rfl, by simp, fun k hk _ => RowKit.Below.heap_alloc w.drew _ k hk⟩⟩
    · rw [Array.size_append, Array.size_append, size_zeroCells, hzs, List.size_toArray, List.size_toArray, ← List.length_append, hlen, ← Nat.add_mul]
      congr 1; omega
    · rw [Array.toList_append, Array.toList_append, ← hlen]
      simp only [List.append_assoc]
      rw [← List.append_assoc]
      exact List.take_left
  cases ao with
  | none =>
    have hnil : news = [] := by
      cases news with
      | nil => rfl
      | cons u l => obtain ⟨a, ha, _⟩ := hc 0 u rfl; cases ha
    subst hnil
    have hm : m = 0 := by
      rcases Nat.eq_zero_or_pos m with h | h
      · exact h
      · have := Nat.mul_pos h hsz
        simp only [List.length_nil] at hl
        omega
    subst hm
    rw [List.append_nil, Nat.add_zero]
    refine ⟨v, w, ?_, hown, ⟨rfl, rfl, rfl, Nat.le_refl _, fun _ _ _ => rfl⟩, .inl rfl, fun _ => Below.refl _ _⟩
    rcases hown.2 with ⟨rfl, rfl⟩ | ⟨g, cap, cur, rfl, _, _, hnc, _⟩
    · simp [Builtin.append_, run_underlying ht, sizeOf, typeInfo, hi, Builtin.lenOf, Builtin.firstCells]
    · simp [Builtin.append_, run_underlying ht, sizeOf, typeInfo, hi, Builtin.lenOf, Builtin.firstCells, hnc, storeCells]
  | some a =>
    have hc' : ∀ j u, news[j]? = some u → w.cell? (a.add j) = some u := fun j u hu => by
      obtain ⟨a', ha, h⟩ := hc j u hu; cases ha; exact h
    rcases hown.2 with ⟨rfl, rfl⟩ | ⟨g, cap, cur, rfl, hbg, hg, hnc, hcm, hcs, htake⟩
    · have hxs : xs = [] := List.eq_nil_of_length_eq_zero (by simpa using hown.1)
      subst hxs
      by_cases hm : m = 0
      · subst hm
        have hn : news = [] := List.eq_nil_of_length_eq_zero (by simpa using hl)
        subst hn
        refine ⟨.slice none 0 0, w, ?_, World.ownsRow_nil w base e i.size, ⟨rfl, rfl, rfl, Nat.le_refl _, fun _ _ _ => rfl⟩, .inl rfl, fun _ => Below.refl _ _⟩
        simp [Builtin.append_, run_underlying ht, sizeOf, typeInfo, hi, Builtin.lenOf, Builtin.firstCells, loadCells, loadCellsFrom]
      · have hr := run_append_nil (P := P) w t ty e i z ht hi hz a m c news hl hc' (by omega) (by omega) (by have hb := hbytes; simp only [Nat.zero_add] at hb; omega)
        have hgr := grows 0 (by omega) (Value.ownBlock (.slice none 0 0))
        simp only [Nat.zero_add, List.nil_append, Array.empty_append] at hgr ⊢
        exact ⟨_, _, hr, hgr.1, hgr.2, .inr fun k hk => by simp only [Value.ownBlock, Option.some.injEq] at hk; omega, fun _ => (below_drew w).trans (below_alloc w.drew _)⟩
    · by_cases hroom : n + m ≤ cap
      · have hfit : n * i.size + news.length ≤ cur.size := by rw [hl, hcs, ← Nat.add_mul]; exact Nat.mul_le_mul_right _ hroom
        have hr := run_append_room (P := P) w t ty e i ht hi g n cap cur hg a m c news hl hc' h1 hroom hfit
        refine ⟨_, _, hr, ⟨hlen, .inr ⟨g, cap, _, rfl, hbg, setRow_heap w g cur _ e _ hg, hroom, hcm, ?_, ?_⟩⟩, ⟨rfl, rfl, rfl, by simp, fun k _ hk => setRow_other w g k _ (fun e => hk (by simp [Value.ownBlock, e]))⟩, .inl rfl, ?_⟩
        · rw [List.size_toArray, List.length_append, List.length_append, List.length_take, List.length_drop, Array.length_toList]
          omega
        · rw [htake, ← hlen]
          exact List.take_left
        · rintro ⟨ao, e⟩
          simp only [Value.slice.injEq] at e
          have hm : m = 0 := by omega
          subst hm
          have hn : news = [] := List.eq_nil_of_length_eq_zero (by simpa using hl)
          subst hn
          rw [List.append_nil, List.length_nil, Nat.add_zero, List.take_append_drop, Array.toArray_toList, setRow_self w g cur _ (0, 0) hg]
          exact Below.refl _ _
      · have hold : ∀ j u, xs[j]? = some u → w.cell? ((⟨g, 0, none⟩ : Addr).add j) = some u := hown.cells (g := g) rfl
        have hr := run_append_grow (P := P) w t ty e i z ht hi hz ⟨g, 0, none⟩ n cap xs hown.1 hold a m c news hl hc' (by omega) (by omega) (growslice_fits (by omega) hbytes)
        have hgr := grows cap (by omega) (Value.ownBlock (.slice (some ⟨g, 0, none⟩) n cap))
        exact ⟨_, _, hr, hgr.1, hgr.2, .inr fun k hk => by simp only [Value.ownBlock, Option.some.injEq] at hk; omega, fun _ => (below_drew w).trans (below_alloc w.drew _)⟩
theorem row_shape {w : World} {base : Nat} {e : TypeId} {sz n : Nat} {v : Value} {xs : List Value} (h : w.ownsRow base e sz v n xs) : ∃ ao cap, v = .slice ao n cap := by
  rcases h.2 with ⟨rfl, rfl⟩ | ⟨g, cap, cur, rfl, _⟩
  · exact ⟨_, _, rfl⟩
  · exact ⟨_, _, rfl⟩
/-- What the table says of an element type. -/
def Elem (P : Program) (t e : TypeId) (sz bytes : Nat) : Prop :=
  P.underlying t = some (.slice e) ∧ 0 < sz ∧ 0 < bytes ∧ ∃ i z, P.info? e = some i ∧ i.zero = some z ∧ i.size = sz ∧ i.bytes = bytes ∧ z.cells.size = sz
theorem Elem.mk' {t e : TypeId} {sz bytes : Nat} (z : Value) (ht : P.underlying t = some (.slice e)) (h : (P.info? e).map (fun i => (i.zero, i.size, i.bytes)) = some (some z, sz, bytes)) (hz : z.cells.size = sz) (h0 : 0 < sz) (h1 : 0 < bytes) : Elem P t e sz bytes := by
  obtain ⟨i, hi, a, b, c⟩ := info_parts h
  exact ⟨ht, h0, h1, i, z, hi, a, b, c, hz⟩
theorem ex_append {w w0 : World} {S : List Nat} {bs : List (Nat × Obj)} {rows : List Row} {t e ty : TypeId} {sz bytes : Nat} (hE : Elem P t e sz bytes) {v x : Value} {n m : Nat} {xs news : List Value}
    (hH : Holds w0 S bs (⟨v, e, sz, n, xs⟩ :: rows) w) (hx : Sl w x sz m news) (h1 : ∀ u ∈ news, u.oneCell' = true)
    (hb : (n + m) * bytes ≤ 140737488355328)
    {ρ : Operand → Value} {dst : Option Tmp} {s y : Operand} {pos : String} {after : Array Edge} {guard : Option (Nat × Bool)} (hs : ρ s = v) (hy : ρ y = x) :
    ∃ v' w', (execOp ρ { dst := dst, op := .call { callee := .builtin .append, args := #[s, y], argTypes := #[t, t] }, type := ty, pos := pos, after := after, guard := guard }).run P w = .ok (.value v') w' ∧
      Holds w0 S bs (⟨v', e, sz, n + m, xs ++ news⟩ :: rows) w' := by
  obtain ⟨ht, hsz, hb1, i, z, hi, hz, hsize, hby, hzs⟩ := hE
  have hb2 : (n + m) * 1 ≤ (n + m) * bytes := Nat.mul_le_mul_left _ hb1
  obtain ⟨v', w', hr, h2, h3, h4, _⟩ := run_append_row (P := P) t ty e i z sz bytes ht hi hz hsize hby hzs hsz (hH.row _ (List.mem_cons_self)) hx h1 (by unfold maxLen; simp only; omega) hb hH.size
  refine ⟨v', w', ?_, hH.grownRow h3 h4 h2⟩
  rw [BigFrame.execOp_builtin, BigFrame.builtin_append]
  simp only [Sem.run_bind, List.map_toArray, List.map_cons, List.map_nil, hs, hy, hr, Result.andThen_ok, Sem.run_pure]
theorem wpList_append {w w0 : World} {S : List Nat} {bs : List (Nat × Obj)} {rows : List Row} {t e ty : TypeId} {sz bytes : Nat} (hE : Elem P t e sz bytes) {v x : Value} {n m : Nat} {xs news : List Value}
    (hH : Holds w0 S bs (⟨v, e, sz, n, xs⟩ :: rows) w) (hx : Sl w x sz m news) (h1 : ∀ u ∈ news, u.oneCell' = true)
    (hb : (n + m) * bytes ≤ 140737488355328)
    {ops : Array Oper} {rest : List Oper} {a : Act} {Q : Exit → Act → World → Prop} {dst : Option Tmp} {s y : Operand} {pos : String} {after : Array Edge} {guard : Option (Nat × Bool)} (hs : a.eval s = v) (hy : a.eval y = x)
    (hg : Region.wanted { dst := dst, op := .call { callee := .builtin .append, args := #[s, y], argTypes := #[t, t] }, type := ty, pos := pos, after := after, guard := guard } (yielded ops a.tmps) = true)
    (h : ∀ ao cap w', Holds w0 S bs (⟨.slice ao (n + m) cap, e, sz, n + m, xs ++ news⟩ :: rows) w' → wpList P ops Q rest (a.put dst (.slice ao (n + m) cap)) w') :
    wpList P ops Q ({ dst := dst, op := .call { callee := .builtin .append, args := #[s, y], argTypes := #[t, t] }, type := ty, pos := pos, after := after, guard := guard } :: rest) a w := by
  obtain ⟨v', w', hr, hH'⟩ := ex_append (P := P) (ρ := a.eval) (dst := dst) (pos := pos) (after := after) (guard := guard) (ty := ty) hE hH hx h1 hb hs hy
  have hsh : ∃ ao cap, v' = .slice ao (n + m) cap := row_shape (hH'.row _ List.mem_cons_self)
  obtain ⟨ao, cap, rfl⟩ := hsh
  exact wpList_ex hg hr (h ao cap w' hH')

theorem run_zeroValue {t : TypeId} {z : Value} (hz : (P.info? t).map (·.zero) = some (some z)) (w : World) : (zeroValue t).run P w = .ok z w := by
  simp only [zeroValue, typeInfo, Sem.run_bind, run_program, Result.andThen_ok]
  cases hh : P.info? t with
  | none => rw [hh] at hz; simp at hz
  | some i => rw [hh] at hz; simp only [Option.map_some, Option.some.injEq] at hz; simp [hz]
theorem run_sizeOf {t : TypeId} {sz : Nat} (hi : (P.info? t).map (·.size) = some sz) (w : World) : (sizeOf t).run P w = .ok sz w := by
  simp only [sizeOf, typeInfo, Sem.run_bind, run_program, Result.andThen_ok]
  cases hh : P.info? t with
  | none => rw [hh] at hi; simp at hi
  | some i => rw [hh] at hi; simp at hi; simp [hi]
theorem foldl_set (l : List Value) : ∀ (pre mid post : List Value) (k off : Nat), pre.length = off + k → mid.length = l.length →
    (l.zipIdx k).foldl (fun (cs : Array Value) (x : Value × Nat) => cs.setIfInBounds (off + x.2) x.1) (pre ++ mid ++ post).toArray = (pre ++ l ++ post).toArray := by
  induction l with
  | nil => intro pre mid post k off h1 h2; have : mid = [] := List.eq_nil_of_length_eq_zero (by simpa using h2); subst this; simp
  | cons c l ih =>
    intro pre mid post k off h1 h2
    match mid, h2 with
    | m :: mid, h2 =>
      rw [List.zipIdx_cons, List.foldl_cons]
      have e : (pre ++ m :: mid ++ post).toArray.setIfInBounds (off + k) c = ((pre ++ [c]) ++ mid ++ post).toArray := by
        rw [← h1]
        apply Array.ext'
        simp
      simp only [e]
      rw [ih (pre ++ [c]) mid post (k + 1) off (by simp; omega) (by simpa using h2)]
      simp
theorem fill_parts {size : Nat} (vs : List Value) (hv : ∀ v ∈ vs, v.cells.size = size) : ∀ (pre mid : List Value) (k : Nat), pre.length = k * size → mid.length = vs.length * size →
    Instr.fill (fun i => some (i * size, size)) (pre ++ mid).toArray ((vs.zipIdx k).map fun p => (p.2, p.1)) = some (pre ++ vs.flatMap (·.cells.toList)).toArray := by
  induction vs with
  | nil => intro pre mid k h1 h2; have : mid = [] := List.eq_nil_of_length_eq_zero (by simpa using h2); subst this; simp [Instr.fill]
  | cons v vs ih =>
    intro pre mid k h1 h2
    have hv0 := hv v (by simp)
    rw [List.zipIdx_cons, List.map_cons, Instr.fill]
    have hl : mid.length = size + vs.length * size := by rw [h2, List.length_cons, Nat.add_mul]; omega
    have hcond : (v.cells.size ≠ size || k * size + v.cells.size > (pre ++ mid).toArray.size) = false := by
      simp [hv0, h1]; omega
    simp only [hcond, Bool.false_eq_true, if_false]
    have e1 : v.cells.zipIdx.foldl (fun cs (x : Value × Nat) => cs.setIfInBounds (k * size + x.2) x.1) (pre ++ mid).toArray = (pre ++ v.cells.toList ++ mid.drop size).toArray := by
      have := foldl_set v.cells.toList pre (mid.take size) (mid.drop size) 0 (k * size) (by omega) (by simp [hv0]; omega)
      rw [List.append_assoc, List.take_append_drop] at this
      rw [← this, ← Array.foldl_toList, Array.toList_zipIdx]
    have e2 : (fun cs (x : Value × Nat) => match x with | (c, j) => Array.setIfInBounds cs (k * size + j) c) = (fun (cs : Array Value) (x : Value × Nat) => cs.setIfInBounds (k * size + x.2) x.1) := rfl
    rw [e2, e1, ih (fun u hu => hv u (List.mem_cons_of_mem _ hu)) (pre ++ v.cells.toList) (mid.drop size) (k + 1) (by simp [h1, hv0, Nat.add_mul]) (by simp; omega)]
    simp
theorem run_buildSlice {t e : TypeId} {sz bytes : Nat} (hE : Elem P t e sz bytes) (vs : List Value) (hv : ∀ v ∈ vs, v.cells.size = sz) (hb : vs.length * sz ≤ 2 ^ 24) (w : World) :
    (Instr.buildSlice t vs.length ((vs.zipIdx 0).map fun p => (p.2, p.1)).toArray).run P w =
      .ok (.slice (some ⟨w.heap.size, 0, none⟩) vs.length vs.length) (w.alloc (.cells (vs.flatMap (·.cells.toList)).toArray e)) := by
  obtain ⟨ht, hsz, _, i, z, hi, hz, hsize, hby, hzs⟩ := hE
  have h1 := run_sizeOf (P := P) (t := e) (sz := sz) (by rw [hi]; simp [hsize]) w
  have h2 := run_zeroValue (P := P) (t := e) (z := z) (by rw [hi]; simp [hz]) w
  have hcond : ¬ (vs.length * sz > 2 ^ 24) := by omega
  have hf : ∀ A : Array Value, A.size = vs.length * sz → Instr.fill (fun i => some (i * sz, sz)) A ((vs.zipIdx 0).map fun p => (p.2, p.1)) = some (vs.flatMap (·.cells.toList)).toArray := fun A hA => by
    have := fill_parts vs hv [] A.toList 0 (by simp) (by simpa using hA)
    simpa using this
  simp only [Instr.buildSlice, Sem.run_bind, run_underlying ht, Result.andThen_ok, h1, Sem.run_ite, hcond, if_false, Sem.run_pure]
  by_cases h0 : vs.length * sz = 0
  · simp only [h0, if_true, Result.andThen_ok, Array.range_zero', Sem.run_pure]
    rw [hf _ (by simp [h0])]
    simp [newRow]
  · simp only [h0, if_false, Result.andThen_ok, Sem.run_bind, h2, Sem.run_pure]
    rw [hf _ (by simp)]
    simp [newRow]
section
variable {w w0 : World} {S : List Nat} {bs bs' : List (Nat × Obj)} {rows : List Row} {ops : Array Oper} {rest : List Oper} {a : Act} {Q : Exit → Act → World → Prop} {dst : Option Tmp} {ty : TypeId} {pos : String} {after : Array Edge} {guard : Option (Nat × Bool)}
theorem wpList_alloc {e : TypeId} {z : Value} (hz : (P.info? e).map (·.zero) = some (some z)) (hH : Holds w0 S bs rows w)
    (hg : Region.wanted { dst := dst, op := .alloc e, type := ty, pos := pos, after := after, guard := guard } (yielded ops a.tmps) = true)
    (h : ∀ g w', Holds w0 S ((g, .cells z.cells e) :: bs) rows w' → wpList P ops Q rest (a.put dst (.pointer (some ⟨g, 0, none⟩))) w') :
    wpList P ops Q ({ dst := dst, op := .alloc e, type := ty, pos := pos, after := after, guard := guard } :: rest) a w := by
  refine wpList_ex hg (v := .pointer (some ⟨w.heap.size, 0, none⟩)) (w' := w.alloc (.cells z.cells e)) ?_ (h _ _ (hH.alloc _))
  simp only [execOp, Instr.alloc, Sem.run_bind, run_zeroValue hz, Result.andThen_ok, newVar, newRow, run_newObj, Sem.run_pure]
  rfl
theorem wpList_box {e : TypeId} {x : Operand} {v : Value} (hx : a.eval x = v) (hH : Holds w0 S bs rows w)
    (hg : Region.wanted { dst := dst, op := .box e x, type := ty, pos := pos, after := after, guard := guard } (yielded ops a.tmps) = true)
    (h : ∀ g w', Holds w0 S ((g, .cells v.cells e) :: bs) rows w' → wpList P ops Q rest (a.put dst (.pointer (some ⟨g, 0, none⟩))) w') :
    wpList P ops Q ({ dst := dst, op := .box e x, type := ty, pos := pos, after := after, guard := guard } :: rest) a w := by
  refine wpList_ex hg (v := .pointer (some ⟨w.heap.size, 0, none⟩)) (w' := w.alloc (.cells v.cells e)) ?_ (h _ _ (hH.alloc _))
  simp only [execOp, Instr.box, Sem.run_bind, Result.andThen_ok, newVar, newRow, run_newObj, Sem.run_pure, hx]
  rfl
/-- Block g is among the call's own; o is what it holds. -/
inductive Own : List (Nat × Obj) → Nat → Obj → Prop
  | here {g o l} : Own ((g, o) :: l) g o
  | there {g o p l} : Own l g o → Own (p :: l) g o
inductive Turn : List (Nat × Obj) → Nat → Obj → Obj → List (Nat × Obj) → Prop
  | here {g o o' l} : Turn ((g, o) :: l) g o o' ((g, o') :: l)
  | there {g o o' p l l'} : Turn l g o o' l' → Turn (p :: l) g o o' (p :: l')
theorem Own.mem {bs : List (Nat × Obj)} {g : Nat} {o : Obj} (h : Own bs g o) : (g, o) ∈ bs := by
  induction h with
  | here => exact List.mem_cons_self
  | there _ ih => exact List.mem_cons_of_mem _ ih
theorem Turn.split {bs bs' : List (Nat × Obj)} {g : Nat} {o o' : Obj} (h : Turn bs g o o' bs') : ∃ pre post, bs = pre ++ (g, o) :: post ∧ bs' = pre ++ (g, o') :: post := by
  induction h with
  | @here g o o' l => exact ⟨[], l, rfl, rfl⟩
  | @there g o o' p l l' _ ih => obtain ⟨pre, post, rfl, rfl⟩ := ih; exact ⟨p :: pre, post, rfl, rfl⟩
theorem Holds.at (h : Holds w0 S bs rows w) {g : Nat} {o : Obj} (ho : Own bs g o) : w.heap[g]? = some o := h.blk _ ho.mem
theorem Holds.turn (h : Holds w0 S bs rows w) {g : Nat} {o o' : Obj} (ht : Turn bs g o o' bs') {w' : World}
    (hw : w'.heap[g]? = some o') (hos : w'.os = w.os) (hta : w'.tape = w.tape) (hout : w'.output = w.output) (hsz : w.heap.size ≤ w'.heap.size)
    (hk : ∀ k, k < w.heap.size → k ≠ g → w'.heap[k]? = w.heap[k]?) : Holds w0 S bs' rows w' := by
  obtain ⟨pre, post, rfl, rfl⟩ := ht.split
  exact h.set rfl hw hos hta hout hsz hk
theorem Turn.own {g : Nat} {o o' : Obj} (h : Turn bs g o o' bs') : Own bs g o := by
  induction h with
  | here => exact .here
  | there _ ih => exact .there ih
theorem cell_own (h : Holds w0 S bs rows w) {g : Nat} {cs : Array Value} {e : TypeId} {fr : Nat × Nat} (ho : Own bs g (.cells cs e fr)) (j : Nat) : w.cell? ⟨g, j, none⟩ = cs[j]? := by
  simp [World.cell?, h.at ho]
/-- A whole variable of the call's own is read. -/
theorem ex_load_own {ρ : Operand → Value} {t : TypeId} {x : Operand} {g : Nat} (hx : ρ x = .pointer (some ⟨g, 0, none⟩))
    {d : TypeDesc} (hu : P.underlying t = some d) (hd : aggD d = true) {sz : Nat}
    (hi : (P.info? t).map (·.size) = some sz) {cs : Array Value} {e : TypeId} {fr : Nat × Nat} (hH : Holds w0 S bs rows w) (ho : Own bs g (.cells cs e fr)) (hl : cs.size = sz) :
    (execOp ρ { dst := dst, op := .load t x, type := ty, pos := pos, after := after, guard := guard }).run P w = .ok (.value (.agg cs)) w := by
  have := ex_load_agg (P := P) (ρ := ρ) (dst := dst) (ty := ty) (pos := pos) (after := after) (guard := guard) hx hu hd hi (cs := cs.toList) (by simpa using hl) (w := w)
    (fun j u hu' => by
      have hadd : (⟨g, 0, none⟩ : Addr).add j = ⟨g, j, none⟩ := by unfold Addr.add; split <;> simp_all
      rw [hadd, cell_own hH ho j]; simpa using hu')
  simpa using this
/-- A whole variable of the call's own is written. -/
theorem wpList_store_own {t : TypeId} {x y : Operand} {g : Nat} {v : Value} {sz : Nat} {cs : Array Value} {e : TypeId}
    (hx : a.eval x = .pointer (some ⟨g, 0, none⟩)) (hy : a.eval y = v) (hi : (P.info? t).map (·.size) = some sz)
    (hH : Holds w0 S bs rows w) (ht : Turn bs g (.cells cs e) (.cells v.cells e) bs') (hv : v.cells.size = sz) (h1 : ∀ u ∈ v.cells.toList, u.oneCell' = true) (hc : cs.size = sz)
    (hg : Region.wanted { dst := dst, op := .store t x y, type := ty, pos := pos, after := after, guard := guard } (yielded ops a.tmps) = true)
    (h : ∀ w', Holds w0 S bs' rows w' → wpList P ops Q rest (a.put dst undef) w') :
    wpList P ops Q ({ dst := dst, op := .store t x y, type := ty, pos := pos, after := after, guard := guard } :: rest) a w := by
  have hblk := hH.at ht.own
  refine wpList_exskip hg (w' := w.setRow g v.cells) ?_ (h _ (hH.turn ht (setRow_heap w g cs v.cells e (0, 0) hblk) rfl rfl rfl (by simp) fun k _ hk => setRow_other w g k _ hk))
  have hs := run_storeCells_at P g 0 e v.cells.toList 0 cs w hblk (by simp; omega) h1
  have hall : cs.toList.drop (0 + 0 + v.cells.toList.length) = [] := List.drop_eq_nil_of_le (by simp; omega)
  rw [hall] at hs
  simp only [Nat.zero_add, List.take_zero, List.nil_append, List.append_nil, Array.toArray_toList] at hs
  simp only [execOp, hx, hy, Instr.storeAt, Instr.sureAddr, storeVar, Sem.run_bind, Sem.run_pure, Result.andThen_ok, run_sizeOf hi, hv, ne_eq, not_true_eq_false, if_false, hs]
theorem wpList_buildSlice {t e : TypeId} {sz bytes : Nat} (hE : Elem P t e sz bytes) (vs : List Value) (hv : ∀ v ∈ vs, v.cells.size = sz) (hb : vs.length * sz ≤ 2 ^ 24) {parts : Array (Nat × Operand)} {n : Nat}
    (hn : n = vs.length) (hp : (parts.toList.map fun p => (p.1, a.eval p.2)) = (vs.zipIdx 0).map fun p => (p.2, p.1)) (hH : Holds w0 S bs rows w) {xs : List Value} (hxs : xs = vs.flatMap (·.cells.toList))
    (hg : Region.wanted { dst := dst, op := .buildSlice t n parts, type := ty, pos := pos, after := after, guard := guard } (yielded ops a.tmps) = true)
    (h : ∀ g w', Holds w0 S bs (⟨.slice (some ⟨g, 0, none⟩) n n, e, sz, n, xs⟩ :: rows) w' → wpList P ops Q rest (a.put dst (.slice (some ⟨g, 0, none⟩) n n)) w') :
    wpList P ops Q ({ dst := dst, op := .buildSlice t n parts, type := ty, pos := pos, after := after, guard := guard } :: rest) a w := by
  subst hn hxs
  have hlen : ∀ l : List Value, (∀ v ∈ l, v.cells.size = sz) → (l.flatMap (·.cells.toList)).length = l.length * sz := by
    intro l hl
    induction l with
    | nil => simp
    | cons x l ih =>
      have h1 := hl x (by simp)
      have h2 := ih fun v hv => hl v (List.mem_cons_of_mem _ hv)
      rw [List.flatMap_cons, List.length_append, h2, Array.length_toList, h1, List.length_cons, Nat.add_mul]
      omega
  have hl := hlen vs hv
  have hb2 : vs.length * 1 ≤ vs.length * sz := Nat.mul_le_mul_left _ hE.2.1
  have hrow : (w.alloc (.cells (vs.flatMap (·.cells.toList)).toArray e)).ownsRow w.heap.size e sz (.slice (some ⟨w.heap.size, 0, none⟩) vs.length vs.length) vs.length (vs.flatMap (·.cells.toList)) :=
    ⟨hl, .inr ⟨w.heap.size, vs.length, _, rfl, Nat.le_refl _, heap_alloc_new w _, Nat.le_refl _, by unfold maxLen; omega, by simpa using hl, by rw [← hl]; exact List.take_length⟩⟩
  refine wpList_ex hg ?_ (h _ _ (hH.addRow (below_alloc w _) hrow))
  have := run_buildSlice (P := P) hE vs hv hb w
  simp only [execOp, Sem.run_bind]
  rw [show (parts.map fun x => match x with | (i, y) => (i, a.eval y)) = (parts.toList.map fun p => (p.1, a.eval p.2)).toArray by rw [← Array.toList_map, Array.toArray_toList], hp, this]
  rfl
theorem wpList_buildArr {t e : TypeId} {sz bytes : Nat} (hE : Elem P t e sz bytes) (l : List (Arr sz)) (hH : Holds w0 S bs rows w) {parts : Array (Nat × Operand)} {n : Nat}
    (hn : n = l.length) (hp : (parts.toList.map fun p => (p.1, a.eval p.2)) = ((l.map Arr.val).zipIdx 0).map fun p => (p.2, p.1)) (hb : n * sz ≤ 16777216)
    (hg : Region.wanted { dst := dst, op := .buildSlice t n parts, type := ty, pos := pos, after := after, guard := guard } (yielded ops a.tmps) = true)
    (h : ∀ g w', Holds w0 S bs (⟨.slice (some ⟨g, 0, none⟩) n n, e, sz, n, flat l⟩ :: rows) w' → wpList P ops Q rest (a.put dst (.slice (some ⟨g, 0, none⟩) n n)) w') :
    wpList P ops Q ({ dst := dst, op := .buildSlice t n parts, type := ty, pos := pos, after := after, guard := guard } :: rest) a w := by
  refine wpList_buildSlice hE (l.map Arr.val) ?_ (by simpa [← hn] using hb) (by simpa using hn) hp hH ?_ hg h
  · intro v hv
    obtain ⟨x, _, rfl⟩ := List.mem_map.1 hv
    simp [Arr.val, Value.cells, Arr.len]
  · rw [List.flatMap_map]; rfl
theorem wpList_build {t : TypeId} {parts : Array (Nat × Operand)} {v : Value} (hb : ∀ w, (Instr.build t (parts.toList.map fun p => (p.1, a.eval p.2)).toArray).run P w = .ok v w)
    (hg : Region.wanted { dst := dst, op := .build t parts, type := ty, pos := pos, after := after, guard := guard } (yielded ops a.tmps) = true)
    (h : wpList P ops Q rest (a.put dst v) w) : wpList P ops Q ({ dst := dst, op := .build t parts, type := ty, pos := pos, after := after, guard := guard } :: rest) a w :=
  wpList_ex hg (by
    simp only [execOp, Sem.run_bind]
    rw [show (parts.map fun x => match x with | (i, y) => (i, a.eval y)) = (parts.toList.map fun p => (p.1, a.eval p.2)).toArray by rw [← Array.toList_map, Array.toArray_toList], hb]
    rfl) h
/-- t is a struct's or an array's type of sz cells. -/
def AggT (P : Program) (t : TypeId) (sz : Nat) : Prop := ∃ d, P.underlying t = some d ∧ aggD d = true ∧ (P.info? t).map (·.size) = some sz
def OneT (P : Program) (t : TypeId) : Prop := ∃ d, P.underlying t = some d ∧ aggD d = false
/-- t is an array's type of n integers. -/
def ArrT (P : Program) (t : TypeId) (n : Nat) : Prop := ∃ e k, P.underlying t = some (.array n e) ∧ P.underlying e = some (.int k) ∧ (P.info? e).map (·.size) = some 1 ∧ P.eqGuardType P.depth t = false
theorem wpList_load_agg {t : TypeId} {sz : Nat} (hA : AggT P t sz) {cs : List Value} (hl : cs.length = sz) {ad : Addr} (hc : ∀ j u, cs[j]? = some u → w.cell? (ad.add j) = some u) {x : Operand}
    (hx : a.eval x = .pointer (some ad))
    (hg : Region.wanted { dst := dst, op := .load t x, type := ty, pos := pos, after := after, guard := guard } (yielded ops a.tmps) = true)
    (h : wpList P ops Q rest (a.put dst (.agg cs.toArray)) w) : wpList P ops Q ({ dst := dst, op := .load t x, type := ty, pos := pos, after := after, guard := guard } :: rest) a w := by
  obtain ⟨d, hu, hd, hi⟩ := hA
  exact wpList_ex hg (ex_load_agg hx hu hd hi hl hc) h
theorem wpList_load_own {t : TypeId} {sz : Nat} (hA : AggT P t sz) (hH : Holds w0 S bs rows w) {x : Operand} {g : Nat} {cs : Array Value} {e : TypeId} {fr : Nat × Nat}
    (hx : a.eval x = .pointer (some ⟨g, 0, none⟩)) (ho : Own bs g (.cells cs e fr)) (hl : cs.size = sz)
    (hg : Region.wanted { dst := dst, op := .load t x, type := ty, pos := pos, after := after, guard := guard } (yielded ops a.tmps) = true)
    (h : wpList P ops Q rest (a.put dst (.agg cs)) w) : wpList P ops Q ({ dst := dst, op := .load t x, type := ty, pos := pos, after := after, guard := guard } :: rest) a w := by
  obtain ⟨d, hu, hd, hi⟩ := hA
  exact wpList_ex hg (ex_load_own hx hu hd hi hH ho hl) h
theorem wpList_neq_arr {n : Nat} {t : TypeId} (hA : ArrT P t n) {x y : Operand} {yt : TypeId} {p q : Arr n} (hx : a.eval x = p.val) (hy : a.eval y = q.val)
    (hg : Region.wanted { dst := dst, op := .binOp .neq t x y yt, type := ty, pos := pos, after := after, guard := guard } (yielded ops a.tmps) = true)
    (h : wpList P ops Q rest (a.put dst (.bool (!(p == q)))) w) : wpList P ops Q ({ dst := dst, op := .binOp .neq t x y yt, type := ty, pos := pos, after := after, guard := guard } :: rest) a w := by
  obtain ⟨e, k, ht, he, hs, hgt⟩ := hA
  exact wpList_ex hg (ex_neq_arr ht he hs hgt hx hy w) h
theorem arr_one {n : Nat} (x : Arr n) : ∀ u ∈ x.val.cells.toList, u.oneCell' = true := by
  intro u hu; exact cells_one x u (by simpa [Arr.val, Value.cells] using hu)
theorem arr_size {n : Nat} (x : Arr n) : x.val.cells.size = n := by simp [Arr.val, Value.cells, Arr.len]
/-- A variable that holds the array x. -/
def objA {n : Nat} (x : Arr n) (e : TypeId) : Obj := .cells x.cells.toArray e
theorem wpList_allocA {n : Nat} {e : TypeId} (hz : (P.info? e).map (·.zero) = some (some (Arr.zero n).val)) (hH : Holds w0 S bs rows w)
    (hg : Region.wanted { dst := dst, op := .alloc e, type := ty, pos := pos, after := after, guard := guard } (yielded ops a.tmps) = true)
    (h : ∀ g w', Holds w0 S ((g, objA (Arr.zero n) e) :: bs) rows w' → wpList P ops Q rest (a.put dst (.pointer (some ⟨g, 0, none⟩))) w') :
    wpList P ops Q ({ dst := dst, op := .alloc e, type := ty, pos := pos, after := after, guard := guard } :: rest) a w := wpList_alloc hz hH hg h
theorem wpList_boxA {n : Nat} {e : TypeId} (hH : Holds w0 S bs rows w) {x : Operand} {v : Arr n} (hx : a.eval x = v.val)
    (hg : Region.wanted { dst := dst, op := .box e x, type := ty, pos := pos, after := after, guard := guard } (yielded ops a.tmps) = true)
    (h : ∀ g w', Holds w0 S ((g, objA v e) :: bs) rows w' → wpList P ops Q rest (a.put dst (.pointer (some ⟨g, 0, none⟩))) w') :
    wpList P ops Q ({ dst := dst, op := .box e x, type := ty, pos := pos, after := after, guard := guard } :: rest) a w := wpList_box hx hH hg h
theorem wpList_loadA {n : Nat} {t : TypeId} (hA : AggT P t n) (hH : Holds w0 S bs rows w) {x : Operand} {g : Nat} {v : Arr n} {e : TypeId}
    (hx : a.eval x = .pointer (some ⟨g, 0, none⟩)) (ho : Own bs g (objA v e))
    (hg : Region.wanted { dst := dst, op := .load t x, type := ty, pos := pos, after := after, guard := guard } (yielded ops a.tmps) = true)
    (h : wpList P ops Q rest (a.put dst v.val) w) : wpList P ops Q ({ dst := dst, op := .load t x, type := ty, pos := pos, after := after, guard := guard } :: rest) a w :=
  wpList_load_own hA hH hx ho (by simp [Arr.len]) hg h
theorem wpList_storeA {n : Nat} {t : TypeId} (hi : (P.info? t).map (·.size) = some n) (hH : Holds w0 S bs rows w) {x y : Operand} {g : Nat} {u v : Arr n} {e : TypeId}
    (hx : a.eval x = .pointer (some ⟨g, 0, none⟩)) (hy : a.eval y = v.val) (ht : Turn bs g (objA u e) (objA v e) bs')
    (hg : Region.wanted { dst := dst, op := .store t x y, type := ty, pos := pos, after := after, guard := guard } (yielded ops a.tmps) = true)
    (h : ∀ w', Holds w0 S bs' rows w' → wpList P ops Q rest (a.put dst undef) w') :
    wpList P ops Q ({ dst := dst, op := .store t x y, type := ty, pos := pos, after := after, guard := guard } :: rest) a w :=
  wpList_store_own hx hy hi hH ht (arr_size v) (arr_one v) (by simp [Arr.len]) hg h
theorem ex_loadA {ρ : Operand → Value} {n : Nat} {t : TypeId} (hA : AggT P t n) (hH : Holds w0 S bs rows w) {x : Operand} {g : Nat} {v : Arr n} {e : TypeId}
    (hx : ρ x = .pointer (some ⟨g, 0, none⟩)) (ho : Own bs g (objA v e)) :
    (execOp ρ { dst := dst, op := .load t x, type := ty, pos := pos, after := after, guard := guard }).run P w = .ok (.value v.val) w := by
  obtain ⟨d, hu, hd, hi⟩ := hA
  exact ex_load_own hx hu hd hi hH ho (by simp [Arr.len])
theorem wp_region_holds {id : Nat} {l : List Oper} (hm : P.follows .mixedOrders = true) (hB : Region.lexB .any l.toArray = true) (hH : Holds w0 S bs rows w)
    (h : wpQuiet P l.toArray (fun w' => Holds w0 S bs rows w') (fun a' => ∀ w', Holds w0 S bs rows w' → Q .normal a' w') l a) : (Code.region id l.toArray true).wp P Q a w :=
  wp_region_quiet (C := fun w' => Holds w0 S bs rows w') hm hB hH.drew (by simpa using h)
theorem wpQ_load_agg {C : World → Prop} {K : Act → Prop} {t : TypeId} {sz : Nat} (hA : AggT P t sz) {cs : List Value} (hl : cs.length = sz) {ad : Addr} (hc : ∀ w, C w → ∀ j u, cs[j]? = some u → w.cell? (ad.add j) = some u) {x : Operand}
    (hx : a.eval x = .pointer (some ad))
    (hg : Region.wanted { dst := dst, op := .load t x, type := ty, pos := pos, after := after, guard := guard } (yielded ops a.tmps) = true)
    (h : wpQuiet P ops C K rest (a.put dst (.agg cs.toArray))) : wpQuiet P ops C K ({ dst := dst, op := .load t x, type := ty, pos := pos, after := after, guard := guard } :: rest) a := by
  obtain ⟨d, hu, hd, hi⟩ := hA
  exact wpQuiet_ex hg (fun w hw => ex_load_agg hx hu hd hi hl (hc w hw)) h
theorem wpQ_eql_arr {C : World → Prop} {K : Act → Prop} {n : Nat} {t : TypeId} (hA : ArrT P t n) {x y : Operand} {yt : TypeId} {p q : Arr n} (hx : a.eval x = p.val) (hy : a.eval y = q.val)
    (hg : Region.wanted { dst := dst, op := .binOp .eql t x y yt, type := ty, pos := pos, after := after, guard := guard } (yielded ops a.tmps) = true)
    (h : wpQuiet P ops C K rest (a.put dst (.bool (p == q)))) : wpQuiet P ops C K ({ dst := dst, op := .binOp .eql t x y yt, type := ty, pos := pos, after := after, guard := guard } :: rest) a := by
  obtain ⟨e, k, ht, he, hs, hgt⟩ := hA
  exact wpQuiet_ex hg (fun w _ => ex_eql_arr ht he hs hgt hx hy w) h
theorem wpQ_neq_arr {C : World → Prop} {K : Act → Prop} {n : Nat} {t : TypeId} (hA : ArrT P t n) {x y : Operand} {yt : TypeId} {p q : Arr n} (hx : a.eval x = p.val) (hy : a.eval y = q.val)
    (hg : Region.wanted { dst := dst, op := .binOp .neq t x y yt, type := ty, pos := pos, after := after, guard := guard } (yielded ops a.tmps) = true)
    (h : wpQuiet P ops C K rest (a.put dst (.bool (!(p == q))))) : wpQuiet P ops C K ({ dst := dst, op := .binOp .neq t x y yt, type := ty, pos := pos, after := after, guard := guard } :: rest) a := by
  obtain ⟨e, k, ht, he, hs, hgt⟩ := hA
  exact wpQuiet_ex hg (fun w _ => ex_neq_arr ht he hs hgt hx hy w) h
section
variable {C : World → Prop} {K : Act → Prop}
theorem wpQ_move {x : Operand} {v : Value} (hx : a.eval x = v) (hg : Region.wanted { dst := dst, op := .move x, type := ty, pos := pos, after := after, guard := guard } (yielded ops a.tmps) = true)
    (h : wpQuiet P ops C K rest (a.put dst v)) : wpQuiet P ops C K ({ dst := dst, op := .move x, type := ty, pos := pos, after := after, guard := guard } :: rest) a :=
  wpQuiet_ex hg (fun w _ => by simp only [execOp, hx, Sem.run_pure]) h
theorem wpQ_assign {x : Operand} {v : Value} (hx : a.eval x = v) (hg : Region.wanted { dst := dst, op := .assign x, type := ty, pos := pos, after := after, guard := guard } (yielded ops a.tmps) = true)
    (h : wpQuiet P ops C K rest (a.put dst v)) : wpQuiet P ops C K ({ dst := dst, op := .assign x, type := ty, pos := pos, after := after, guard := guard } :: rest) a :=
  wpQuiet_ex hg (fun w _ => by simp only [execOp, hx, Sem.run_pure]) h
theorem wpQ_pick {c x y : Operand} {b : Bool} {v : Value} (hc : a.eval c = .bool b) (hv : (if b then a.eval x else a.eval y) = v) (hg : Region.wanted { dst := dst, op := .pick c x y, type := ty, pos := pos, after := after, guard := guard } (yielded ops a.tmps) = true)
    (h : wpQuiet P ops C K rest (a.put dst v)) : wpQuiet P ops C K ({ dst := dst, op := .pick c x y, type := ty, pos := pos, after := after, guard := guard } :: rest) a :=
  wpQuiet_ex hg (fun w _ => by simp only [execOp, hc, asBool, Sem.run_bind, Sem.run_pure, Result.andThen_ok, hv]) h
theorem wpQ_skip {o : Oper} (hg : Region.wanted o (yielded ops a.tmps) = false) (h : wpQuiet P ops C K rest (a.put o.dst undef)) : wpQuiet P ops C K (o :: rest) a := BigFrame.wpQuiet_skip hg h
theorem wpQ_index {t e : TypeId} {sz bytes : Nat} (hE : Elem P t e sz bytes) {x i : Operand} {ad : Addr} {n c j : Nat} {q : Int} {k : IntKind} (hx : a.eval x = .slice (some ad) n c) (hi : a.eval i = .int k q) (hq : q = (j : Int)) (hj : j < n)
    (hg : Region.wanted { dst := dst, op := .indexAddr t x i, type := ty, pos := pos, after := after, guard := guard } (yielded ops a.tmps) = true)
    (h : wpQuiet P ops C K rest (a.put dst (.pointer (some (ad.add (j * sz)))))) : wpQuiet P ops C K ({ dst := dst, op := .indexAddr t x i, type := ty, pos := pos, after := after, guard := guard } :: rest) a := by
  subst hq
  obtain ⟨ht, hsz, _, ii, z, hi', _, hsize, _, _⟩ := hE
  have h2 : ∀ w, (sizeOf e).run P w = .ok sz w := run_sizeOf (by rw [hi']; simp [hsize])
  refine wpQuiet_ex hg (fun w _ => ?_) h
  have hc : (0 : Int) ≤ (j : Int) ∧ (j : Int) < n := by omega
  simp only [execOp, hx, hi, Instr.indexAt, asIntOf, Sem.run_bind, Sem.run_pure, Result.andThen_ok, run_underlying ht, h2, hc, and_self, if_true, Int.toNat_natCast]
theorem wpQ_len {t : TypeId} {e : TypeId} (ht : P.underlying t = some (.slice e)) {x : Operand} {ao : Option Addr} {n c : Nat} (hx : a.eval x = .slice ao n c)
    (hg : Region.wanted { dst := dst, op := .call { callee := .builtin .len, args := #[x], argTypes := #[t] }, type := ty, pos := pos, after := after, guard := guard } (yielded ops a.tmps) = true)
    (h : wpQuiet P ops C K rest (a.put dst (.int .i64 n))) : wpQuiet P ops C K ({ dst := dst, op := .call { callee := .builtin .len, args := #[x], argTypes := #[t] }, type := ty, pos := pos, after := after, guard := guard } :: rest) a := by
  refine wpQuiet_ex hg (fun w _ => ?_) h
  rw [BigFrame.execOp_builtin, BigFrame.builtin_len]
  simp [hx, Builtin.len_, run_underlying ht, goInt]
/-- What a comparison of whole numbers says. -/
@[reducible] def cmpB (op : BinOp) (p q : Int) : Bool :=
  match op with | .eql => p == q | .neq => p != q | .lss => decide (p < q) | .leq => decide (p ≤ q) | .gtr => decide (p > q) | .geq => decide (p ≥ q) | _ => false
def isCmp : BinOp → Bool | .eql | .neq | .lss | .leq | .gtr | .geq => true | _ => false
theorem run_cmp {op : BinOp} (ho : isCmp op = true) (t : TypeId) (k : IntKind) (p q : Int) (w : World) : (binOp op t (.int k p) (.int k q)).run P w = .ok (.bool (cmpB op p q)) w := by
  cases op <;> simp [isCmp] at ho <;> simp [binOp, Op.intCmp, cmpB]
theorem wpQ_cmp {op : BinOp} {t yt : TypeId} {x y : Operand} {k : IntKind} {p q : Int} {b : Bool} (ho : isCmp op = true) (hx : a.eval x = .int k p) (hy : a.eval y = .int k q) (hb : cmpB op p q = b)
    (hg : Region.wanted { dst := dst, op := .binOp op t x y yt, type := ty, pos := pos, after := after, guard := guard } (yielded ops a.tmps) = true)
    (h : wpQuiet P ops C K rest (a.put dst (.bool b))) : wpQuiet P ops C K ({ dst := dst, op := .binOp op t x y yt, type := ty, pos := pos, after := after, guard := guard } :: rest) a := by
  refine wpQuiet_ex hg (fun w _ => ?_) h
  simp only [execOp, hx, hy, Sem.run_bind, eqGuard_at_int, Sem.run_pure, Result.andThen_ok, run_cmp ho, hb]
def isArith : BinOp → Bool | .add | .sub | .mul => true | _ => false
@[reducible] def arithI (op : BinOp) (p q : Int) : Int := match op with | .add => p + q | .sub => p - q | .mul => p * q | _ => 0
theorem run_arith {op : BinOp} (ho : isArith op = true) (t : TypeId) (k : IntKind) (p q : Int) (w : World) : (binOp op t (.int k p) (.int k q)).run P w = .ok (.int k (k.wrap (arithI op p q))) w := by
  cases op <;> simp [isArith] at ho <;> simp [binOp, Op.intArith, arithI]
theorem wpQ_arith {op : BinOp} {t yt : TypeId} {x y : Operand} {k : IntKind} {p q r : Int} (ho : isArith op = true) (hx : a.eval x = .int k p) (hy : a.eval y = .int k q) (hr : k.wrap (arithI op p q) = r)
    (hg : Region.wanted { dst := dst, op := .binOp op t x y yt, type := ty, pos := pos, after := after, guard := guard } (yielded ops a.tmps) = true)
    (h : wpQuiet P ops C K rest (a.put dst (.int k r))) : wpQuiet P ops C K ({ dst := dst, op := .binOp op t x y yt, type := ty, pos := pos, after := after, guard := guard } :: rest) a := by
  refine wpQuiet_ex hg (fun w _ => ?_) h
  have he : ∀ u v, eqGuard op t x y u v = pure () := by intro u v; cases op <;> simp [isArith] at ho <;> rfl
  simp only [execOp, hx, hy, Sem.run_bind, he, Sem.run_pure, Result.andThen_ok, run_arith ho, hr]
theorem wpQ_not {t : TypeId} {x : Operand} {b : Bool} (hx : a.eval x = .bool b) (hg : Region.wanted { dst := dst, op := .unOp .not t x, type := ty, pos := pos, after := after, guard := guard } (yielded ops a.tmps) = true)
    (h : wpQuiet P ops C K rest (a.put dst (.bool !b))) : wpQuiet P ops C K ({ dst := dst, op := .unOp .not t x, type := ty, pos := pos, after := after, guard := guard } :: rest) a :=
  wpQuiet_ex hg (fun w _ => by simp [execOp, hx, Op.unary]) h
/-- A function of this program that has a body. -/
def Body (P : Program) (f : FuncId) : Prop := ∃ fn c, P.funcs[f]? = some fn ∧ fn.body = some c ∧ (fn.name == "runtime.NumGoroutine") = false
theorem ex_call {f : FuncId} (hf : Body P f) {xs : Array Operand} {ats : Array TypeId} {args : Array Value} (ha : xs.map a.eval = args) (w : World) :
    (execOp a.eval { dst := dst, op := .call { callee := .value (.func f), args := xs, argTypes := ats }, type := ty, pos := pos, after := after, guard := guard }).run P w = .ok (.enter f args) w := by
  obtain ⟨fn, c, h1, h2, h3⟩ := hf
  rw [execOp_call_go]
  have h3' : ¬ fn.name = "runtime.NumGoroutine" := by simpa using h3
  simp [callFunc, h1, h2, h3', ha]
end
end
end
end Go.Proofs.Ytohdkmgnnncpkaa

/- From a law's walk to its row: arguments opened, the post shut. Over any program. No condition. -/
namespace Go.Proofs.Ytohdkmgnnncpkaa
open Go.RowKit Go.ChangeShapes Go.WideShapes
section
variable {H : Type} {enc : TypeId × Value → H} {P : Program} {W W' : World}
/-- All arguments read behind the call as they did. -/
theorem trodAll_below (hl : laidOutB P = true) (hb : Below W.heap.size W W') : ∀ (ts : List TypeId) (vs : List Value) (ds : List (DataW H)) (ps : List MemPlace),
    (∀ t ∈ ts, P.readableRec t = true ∧ t < P.types.size) → DataW.TrodAll enc P W 0 (fun _ => true) true ts vs ds ps → (∀ x ∈ ps, x.block < W.heap.size) →
    DataW.TrodAll enc P W' 0 (fun b => decide (b < W.heap.size)) true ts vs ds ps
  | [], [], [], _, _, h, _ => h
  | t :: ts, v :: vs, d :: ds, _, hr, ⟨p, q, h1, h2, e⟩, hlt => by
    subst e
    exact ⟨p, q, Below.trod hl (hr t (by simp)).1 (hr t (by simp)).2 h1 hb (fun x hx => hlt x (List.mem_append.2 (.inl hx))),
      trodAll_below hl hb ts vs ds q (fun t ht => hr t (by simp [ht])) h2 (fun x hx => hlt x (List.mem_append.2 (.inr hx))), rfl⟩
  | [], _ :: _, _, _, _, h, _ => h.elim
  | [], [], _ :: _, _, _, h, _ => h.elim
  | _ :: _, [], _, _, _, h, _ => h.elim
  | _ :: _, _ :: _, [], _, _, h, _ => h.elim
/-- What a law that returns true has to leave. -/
theorem post_true {f : Func} {s : ChangeSpec} {apart fresh handsOn : Bool} {args : Array Value} {ds gs : List (DataW H)} {before : List MemPlace} {tb : TypeId}
    (hl : laidOutB P = true) (hr : ∀ t ∈ f.params.toList, P.readableRec t = true ∧ t < P.types.size) (hres : f.resultTypes = #[tb]) (htb : P.underlying tb = some .bool)
    (hW : DataW.Whole enc P f.params.toList s.vars apart W args.toList ds gs before) (hvars : s.vars = []) (hfn : s.fn H ds = { results := [.lit (.bool true)], args := ds }) (hb : Below W.heap.size W W') :
    s.post enc P f apart fresh handsOn false W args (.bool true) W' := by
  have hW' := hW
  obtain ⟨p, q, hA, hV, rfl, hz, hd⟩ := hW
  rw [hvars] at hV
  obtain ⟨rfl, rfl⟩ := trodVars_none hV
  rw [List.append_nil] at hW'
  refine ⟨ds, [], p, [], p, [], hW', ?_, ?_, ?_, hb.frame _, fun h => by cases h⟩
  · rw [List.append_nil, hfn, hres]
    exact trodAll_mk1 ⟨1, by simp [DataW.trod, htb, Value.cells]⟩
  · rw [List.append_nil, hfn]
    exact trodAll_below hl hb _ _ _ _ hr hA (fun x hx => hW'.lt x hx)
  · rw [List.append_nil, hfn, hvars]
    rfl
/-- An array of bytes that is read. -/
theorem open_bytes {t e : TypeId} {n : Nat} {base : Nat} {spare : Nat → Bool} {held : Bool} {fuel : Nat} {cs : List Value} {x : DataW H × List MemPlace} (ht : P.underlying t = some (.array n e)) (he : P.underlying e = some (.int .u8))
    (hc : P.cellsOf t = n) (hc1 : P.cellsOf e = 1) (h : DataW.trod enc P W base spare held fuel t cs = some x) : ∃ a : Arr n, cs = a.cells := by
  cases fuel with
  | zero => simp [DataW.trod] at h
  | succ m =>
    rw [DataW.trod_step] at h
    unfold DataW.trodStep at h
    simp only [ht] at h
    split at h
    · rename_i hlen
      rw [hc] at hlen
      simp only [Option.map_eq_some_iff] at h
      obtain ⟨ys, hy, _⟩ := h
      have key : ∀ i, i < n → ∃ b : UInt8, cs[i]? = some (byt b) := by
        intro i hi
        have h1 := mapM_some_get hy i i (by simp [hi])
        have hl := mapM_some_length hy
        have hi' : i < ys.length := by rw [hl]; simpa using hi
        rw [List.getElem?_eq_getElem hi'] at h1
        obtain ⟨z, hz, _, hw⟩ := DataW.trod_int he h1
        rw [hc1, Nat.mul_one] at hz
        have h0 : (0 : Int) ≤ z ∧ z ≤ 255 := by
          have e1 : IntKind.u8.min = 0 := rfl
          have e2 : IntKind.u8.max = 255 := rfl
          simp only [Lit.wf, Bool.and_eq_true, decide_eq_true_eq] at hw
          omega
        refine ⟨UInt8.ofNat z.toNat, ?_⟩
        have h2 : (cs.drop i)[0]? = some (.int .u8 z) := by
          have h3 : ((cs.drop i).take 1)[0]? = some (.int .u8 z) := by rw [hz]; rfl
          rw [List.getElem?_take] at h3
          simpa using h3
        rw [List.getElem?_drop, Nat.add_zero] at h2
        rw [h2]
        simp only [byt, UInt8.toNat_ofNat', Option.some.injEq, Value.int.injEq, true_and]
        omega
      obtain ⟨g, hg⟩ := Deep.choose_lt key
      refine ⟨⟨(List.range n).map g, by simp⟩, ?_⟩
      apply List.ext_getElem?
      intro i
      by_cases hi : i < n
      · rw [hg i hi]; simp [Arr.cells, hi]
      · rw [List.getElem?_eq_none (by omega), List.getElem?_eq_none (by simp [Arr.cells]; omega)]
    · simp at h
theorem flat_of {n : Nat} (f : Nat → Arr n) (len : Nat) (hn : 0 < n) (j : Nat) (u : Value) (h : (flat ((List.range len).map f))[j]? = some u) : j / n < len ∧ (f (j / n)).cells[j % n]? = some u := by
  have hj := (List.getElem?_eq_some_iff.1 h).1
  rw [flat_len] at hj
  simp only [List.length_map, List.length_range] at hj
  have hd : j / n < len := (Nat.div_lt_iff_lt_mul hn).2 hj
  refine ⟨hd, ?_⟩
  have e : j = (j / n) * n + j % n := by rw [Nat.mul_comm]; exact (Nat.div_add_mod j n).symm
  rw [e, flat_get _ _ (by simpa using hd) _ (Nat.mod_lt _ hn)] at h
  simpa using h
/-- A slice of such arrays. -/
theorem open_arrs {ts t e : TypeId} {n : Nat} {base : Nat} {fuel : Nat} {v : Value} {x : DataW H × List MemPlace} (hs : P.underlying ts = some (.slice t)) (ht : P.underlying t = some (.array n e)) (he : P.underlying e = some (.int .u8)) (hn : 0 < n)
    (hc : P.cellsOf t = n) (hc1 : P.cellsOf e = 1) (hv : ∃ a len cap, v = .slice a len cap) (h : DataW.trod enc P W base (fun _ => true) true fuel ts v.cells.toList = some x) :
    ∃ l : List (Arr n), Sl W v n l.length (flat l) ∧ (l = [] ∨ ∃ elems spare, x.1 = .slice elems spare ∧ elems.length = l.length) := by
  obtain ⟨ao, len, cap, rfl⟩ := hv
  rcases Deep.open_slice hs h with ⟨hcs, _⟩ | ⟨a, len', cap', m, fu, D, Pl, hcs, _, hle, _, hm, rfl, hx⟩
  · simp [Value.cells] at hcs
    obtain ⟨rfl, rfl, rfl⟩ := hcs
    exact ⟨[], Sl.nil W n, .inl rfl⟩
  · simp [Value.cells] at hcs
    obtain ⟨rfl, rfl, rfl⟩ := hcs
    simp only [if_true] at hm
    subst hm
    have key : ∀ i, i < len → ∃ y : Arr n, ∀ k u, y.cells[k]? = some u → W.cell? ((a.add (i * n)).add k) = some u := by
      intro i hi
      obtain ⟨cs', h1, h2⟩ := hx i (by omega)
      obtain ⟨y, rfl⟩ := open_bytes ht he hc hc1 h2
      obtain ⟨_, _, h3⟩ := World.cells?_some h1
      rw [hc] at h3
      exact ⟨y, fun k u hk => (h3 k (by have := (List.getElem?_eq_some_iff.1 hk).1; rwa [Arr.len] at this)).trans hk⟩
    have : Inhabited (Arr n) := ⟨Arr.zero n⟩
    obtain ⟨g, hg⟩ := Deep.choose_lt key
    refine ⟨(List.range len).map g, ?_, .inr ⟨_, _, rfl, by simp⟩⟩
    refine ⟨some a, _, by rw [List.length_map, List.length_range], by simpa using hle, flat_len _, fun j u hu => ⟨a, rfl, ?_⟩⟩
    obtain ⟨h1, h2⟩ := flat_of g len hn j u hu
    have h3 := hg _ h1 _ u h2
    rw [Deep.add_add] at h3
    rwa [show j / n * n + j % n = j by rw [Nat.mul_comm]; exact Nat.div_add_mod j n] at h3
end
end Go.Proofs.Ytohdkmgnnncpkaa

/- Own and Same of the references' laws: what they hand back. Condition: lists of fewer than 2^42 identities. -/
namespace Go.Proofs.Ytohdkmgnnncpkaa
open Go.RowKit
abbrev Id := Arr 32
theorem E24 : Elem Try.prog 24 33 32 32 := Elem.mk' (Arr.zero 32).val Try.underlying24 (by kernel_rfl) (by kernel_rfl) (by omega) (by omega)
theorem A33 : AggT Try.prog 33 32 := ⟨_, Try.underlying33, rfl, by kernel_rfl⟩
theorem A38 : AggT Try.prog 38 32 := ⟨_, Try.underlying38, rfl, by kernel_rfl⟩
theorem R33 : ArrT Try.prog 33 32 := ⟨_, _, Try.underlying33, Try.underlying5, by kernel_rfl, by kernel_rfl⟩
/-- A slice of identities that is read. -/
abbrev Ids (w : World) (v : Value) (l : List Id) : Prop := Sl w v 32 l.length (flat l)
theorem Ids.of {w : World} {v : Value} {n : Nat} {l : List Id} {cs : List Value} (h : Sl w v 32 n cs) (hn : n = l.length) (hc : cs = flat l) : Ids w v l := by subst hn hc; exact h
def RetIds (E : TypeId) (w : World) (l : List Id) (e : Ending) (w' : World) : Prop :=
  ∃ ao cap, e = .returned (.slice ao l.length cap) ∧ w'.ownsRow w.heap.size E 32 (.slice ao l.length cap) l.length (flat l) ∧ Below w.heap.size w w'
/-- The same slice value under another name for its length. -/
theorem RetIds.mk {E : TypeId} {w w' : World} {l : List Id} {ao : Option Addr} {n cap : Nat} (h : w'.ownsRow w.heap.size E 32 (.slice ao l.length cap) l.length (flat l) ∧ Below w.heap.size w w') (hn : n = l.length) : RetIds E w l (.returned (.slice ao n cap)) w' := by
  subst hn; exact ⟨_, _, rfl, h⟩
theorem Ids.get {w : World} {a : Addr} {cap : Nat} {l : List Id} (h : Ids w (.slice (some a) l.length cap) l) (k : Nat) (hk : k < l.length) : ∀ j u, (l[k]).cells[j]? = some u → w.cell? ((a.add (k * 32)).add j) = some u := by
  intro j u hu
  have hj : j < 32 := by
    have := (List.getElem?_eq_some_iff.1 hu).1
    rwa [Arr.len] at this
  have h1 := h.cell (k * 32 + j) u (by rw [flat_get l k hk j hj]; exact hu)
  have e : (a.add (k * 32)).add j = a.add (k * 32 + j) := by
    unfold Addr.add; split <;> split <;> simp_all <;> omega
  rw [e]; exact h1
def OwnRel (w : World) (l : List Id) (v i : Value) (wr : World) : Prop :=
  ∃ k : Nat, k ≤ l.length ∧ i = .int .i64 k ∧ ∃ a' c', v = .slice a' k c' ∧ Holds w [] [] [⟨v, 33, 32, k, flat (l.take k)⟩] wr
set_option maxHeartbeats 400000 in
theorem own_any (w : World) (v : Value) (l : List Id) (hl : Ids w v l) (hn : l.length * 32 ≤ 140737488355328) :
    Calls Try.prog 13 #[v] w (RetIds 33 w l) := by
  obtain ⟨ao, cap, rfl, _⟩ := hl.shape
  have hH := Holds.init w
  go_enter Try.func13, Try.ntmps13
  go_wp2
  go_loopw [3, 4] (OwnRel w l) (fun _ i _ => l.length - (intOf i).toNat)
  case atStart => exact ⟨0, Nat.zero_le _, rfl, _, _, rfl, hH.addRow (Below.refl _ _) (by simpa [flat] using World.ownsRow_nil w w.heap.size 33 32)⟩
  case round =>
    obtain ⟨k, hk, rfl, a', c', rfl, hr⟩ := hrel
    clear hH
    by_cases hlt : k < l.length
    · obtain ⟨a, cap', e⟩ := hl.some (by omega)
      cases e
      have hi : Ids wr (.slice (some a) l.length cap) l := hr.sl hl
      have hg := hi.get k hlt
      have HR := hid hr
      have HG := hid hg
      clear hr hg hi
      go_wp2_with (first
        | ((with_reducible apply wpList_load_agg A38 (Arr.len _) HG.out); go_must (rfl; rfl))
        | ((with_reducible apply wpList_buildArr E24 [l[k]] HR.out); go_must ((rfl; rfl; decide; rfl; (intro g w1 hq; have HR1 := hid hq; clear hq HR))))
        | ((with_reducible apply wpList_append E24 HR1.out.swap HR1.out.sl0 (flat_cell1 _)); go_must ((omega; rfl; rfl; rfl; (intro ao1 cap1 w2 hq; have HR2 := hid hq.dropSnd; clear hq HR1))))
        )
      go_roundw
      case rel => exact ⟨k + 1, by omega, by go_num, _, _, rfl, by
        have := HR2.out
        rw [← flat_append, List.take_append_getElem hlt] at this
        exact this⟩
      case measure => simp [intOf]; omega
    · have HR := hid hr
      clear hr
      go_wp2
      go_ret
      obtain rfl : k = l.length := by omega
      have h0 := HR.out
      rw [List.take_length] at h0
      exact ⟨_, _, rfl, h0.own0, h0.below⟩
end Go.Proofs.Ytohdkmgnnncpkaa

/- From the walks of the references' laws to their rows: what is alike. No condition. -/
namespace Go.Proofs.Ytohdkmgnnncpkaa
open Go.ChangeShapes Go.WideShapes Go.ChangeAt Go.RowKit
theorem Try.own : ownKnob Try.prog.godebug = none := by kernel_rfl
theorem Try.laidOut : laidOutB Try.prog = true := by kernel_rfl
theorem cells38 : Try.prog.cellsOf 38 = 32 := by kernel_rfl
theorem cells5 : Try.prog.cellsOf 5 = 1 := by kernel_rfl
theorem bytes38 : Try.prog.bytesOf 38 = 32 := by kernel_rfl
/-- An argument of type []Identity. -/
theorem open_ids {H : Type} {enc : TypeId × Value → H} {W : World} {base : Nat} {ts : List TypeId} {ds : List (DataW H)} {j : Nat} {v : Value} {d : DataW H} {p : List MemPlace} (hval : Value.okWide Try.prog W .any base 22 v)
    (h : DataW.Trod enc Try.prog W 0 (fun _ => true) true 22 v d p) (hsz : (DataW.weightsEach Try.prog ts ds).all (· ≤ reachBytes) = true) (ht : ts[j]? = some 22) (hd : ds[j]? = some d) :
    ∃ l : List Id, Ids W v l ∧ l.length * 32 ≤ 140737488351232 := by
  obtain ⟨fuel, hf⟩ := h
  obtain ⟨l, hl, hlen⟩ := open_arrs Try.underlying22 Try.underlying38 Try.underlying5 (by omega) cells38 cells5 (okWide_slice Try.underlying22 hval) hf
  refine ⟨l, hl, ?_⟩
  rcases hlen with rfl | ⟨elems, spare, e, he⟩
  · simp
  · simp only at e
    subst e
    have := sized_slice hsz ht hd Try.underlying22
    rw [bytes38, he] at this
    unfold reachBytes at this
    have h2 : l.length * 32 ≤ (l.length + spare.length) * 32 := Nat.mul_le_mul_right _ (Nat.le_add_right _ _)
    omega
theorem readable_of {ts : List TypeId} (h : (ts.all fun t => Try.prog.readableRec t && decide (t < Try.prog.types.size)) = true) : ∀ t ∈ ts, Try.prog.readableRec t = true ∧ t < Try.prog.types.size := by
  intro t ht
  have := List.all_eq_true.1 h t ht
  simpa using this
end Go.Proofs.Ytohdkmgnnncpkaa

/- A region that draws its order and whose operations make memory: what each operation leaves holds whatever order is drawn. Over any program; no condition. -/
namespace Go.Proofs.Ytohdkmgnnncpkaa
open Go.RowKit
section
variable {P : Program} {ops : Array Oper}
/-- What an operation yields, and the world that it leaves. -/
def OpOK (P : Program) (o : Oper) (a : Act) (w : World) (R : Value → World → Prop) : Prop :=
  match (execOp a.eval o).run P w with
  | .ok (.value v) w' => R v w'
  | .ok .skip w' => R undef w'
  | .ok (.enter f args) w' => Calls P f args w' fun e w'' => ∃ v, e = .returned v ∧ R v w''
  | _ => False
theorem OpOK.wp {o : Oper} {a : Act} {w : World} {R : Value → World → Prop} (h : OpOK P o a w R) {K : Act → World → Prop} {Q : Exit → Act → World → Prop} (hK : ∀ v w', R v w' → K (a.put o.dst v) w') : o.wp P a w K Q := by
  unfold OpOK at h
  unfold Oper.wp
  generalize (execOp a.eval o).run P w = r at *
  cases r with
  | halt x w' => exact h.elim
  | ok n w' =>
    cases n <;> simp only [Oper.upon] <;> first | exact h.elim | exact hK _ _ h | skip
    exact Calls.mono h fun e w'' ⟨v, he, hR⟩ => by subst he; exact hK _ _ hR
/-- What operation i says of the value in its slot. -/
def SatD (ops : Array Oper) (A : Nat → Value → World → Prop) (a : Act) (w : World) (i : Nat) : Prop :=
  ∀ o, ops[i]? = some o → A i (match o.dst with | some d => a.tmps.getD d undef | none => undef) w
/-- The slots that no operation of the region writes are as they were. -/
def FrD (ops : Array Oper) (a0 a : Act) : Prop :=
  a.defers = a0.defers ∧ a.tmps.size = a0.tmps.size ∧ ∀ (t : Nat), (∀ (i : Nat) (o : Oper), ops[i]? = some o → o.dst ≠ some t) → a.tmps.getD t undef = a0.tmps.getD t undef
/-- What an operation without a slot yields is dropped. -/
def slotD (o : Oper) (v : Value) : Value := match o.dst with | some _ => v | none => undef
structure InvD (ops : Array Oper) (a0 : Act) (I : World → Prop) (A : Nat → Value → World → Prop) (listed : Array Bool) (a : Act) (w : World) : Prop where
  inv : I w
  def_ : a.defers = a0.defers
  size : a.tmps.size = a0.tmps.size
  fr : ∀ t, (∀ i o, ops[i]? = some o → listed.getD i false = true → o.dst ≠ some t) → a.tmps.getD t undef = a0.tmps.getD t undef
  sat : ∀ i, listed.getD i false = true → SatD ops A a w i
theorem InvD.frD {a0 a : Act} {I : World → Prop} {A : Nat → Value → World → Prop} {listed : Array Bool} {w : World} (h : InvD ops a0 I A listed a w) : FrD ops a0 a :=
  ⟨h.def_, h.size, fun t ht => h.fr t fun i o ho _ => ht i o ho⟩
theorem getD_put_self {a : Act} {d : Nat} {v : Value} (h : d < a.tmps.size) : (a.put (some d) v).tmps.getD d undef = v := by
  simp [Act.put, h]
theorem getD_put_ne {a : Act} {d t : Nat} {v : Value} (h : d ≠ t) : (a.put (some d) v).tmps.getD t undef = a.tmps.getD t undef := by
  simp [Act.put, Array.getElem?_setIfInBounds, h]
theorem size_put (a : Act) (d : Option Tmp) (v : Value) : (a.put d v).tmps.size = a.tmps.size := by
  cases d <;> simp [Act.put]
theorem defers_put (a : Act) (d : Option Tmp) (v : Value) : (a.put d v).defers = a.defers := by
  cases d <;> rfl
/-- The edges lead back, no slot is written twice, each slot is one of the frame's. -/
def shapeD (n : Nat) (ops : Array Oper) : Bool :=
  ((List.range ops.size).all fun i => ((ops[i]?).map fun (o : Oper) => (o.after.toList.all fun e => !Region.binds .any e || decide (e.on < i)) && (match o.dst with | some d => decide (d < n) | none => true)).getD true) &&
  ((List.range ops.size).all fun i => (List.range ops.size).all fun j => decide (i = j) || (match (ops[i]?).bind Oper.dst, (ops[j]?).bind Oper.dst with | some d, some d' => decide (d ≠ d') | _, _ => true))
theorem shapeD_back {n : Nat} (h : shapeD n ops = true) {i : Nat} {o : Oper} (ho : ops[i]? = some o) : ∀ e ∈ o.after, Region.binds .any e = true → e.on < i := by
  have hi : i < ops.size := (Array.getElem?_eq_some_iff.1 ho).1
  simp only [shapeD, Bool.and_eq_true, List.all_eq_true, List.mem_range] at h
  have h1 := h.1 i hi
  rw [ho] at h1
  simp only [Option.map_some, Option.getD_some, Bool.and_eq_true, List.all_eq_true, decide_eq_true_eq, Bool.or_eq_true, Bool.not_eq_true'] at h1
  intro e he hb
  rcases h1.1 e (Array.mem_toList_iff.2 he) with h2 | h2
  · rw [hb] at h2; cases h2
  · exact h2
theorem shapeD_lt {n : Nat} (h : shapeD n ops = true) {i d : Nat} {o : Oper} (ho : ops[i]? = some o) (hd : o.dst = some d) : d < n := by
  have hi : i < ops.size := (Array.getElem?_eq_some_iff.1 ho).1
  simp only [shapeD, Bool.and_eq_true, List.all_eq_true, List.mem_range] at h
  have h1 := h.1 i hi
  rw [ho] at h1
  simp only [Option.map_some, Option.getD_some, Bool.and_eq_true, hd, decide_eq_true_eq] at h1
  exact h1.2
theorem shapeD_ne {n : Nat} (h : shapeD n ops = true) {i j d : Nat} {o o' : Oper} (ho : ops[i]? = some o) (ho' : ops[j]? = some o') (hij : i ≠ j) (hd : o.dst = some d) : o'.dst ≠ some d := by
  have hi : i < ops.size := (Array.getElem?_eq_some_iff.1 ho).1
  have hj : j < ops.size := (Array.getElem?_eq_some_iff.1 ho').1
  simp only [shapeD, Bool.and_eq_true, List.all_eq_true, List.mem_range] at h
  have h1 := h.2 i hi j hj
  intro e
  simp [ho, ho', hd, e, hij] at h1
theorem getD_set_self {l : Array Bool} {i : Nat} (h : i < l.size) (b : Bool) : (l.setIfInBounds i true).getD i b = true := by simp [h]
theorem getD_set_ne' {l : Array Bool} {i j : Nat} (h : i ≠ j) (b : Bool) : (l.setIfInBounds i true).getD j b = l.getD j b := by
  simp [Array.getElem?_setIfInBounds, h]
theorem wpAny_D {Q : Exit → Act → World → Prop} {a0 : Act} {I : World → Prop} {A : Nat → Value → World → Prop} {G : Nat → World → World → Prop} (hsh : shapeD a0.tmps.size ops = true)
    (hst : ∀ i j, i ≠ j → ∀ v w w', G i w w' → A j v w → A j v w')
    (hstep : ∀ i o, ops[i]? = some o → ∀ a w, I w → FrD ops a0 a → (∀ e ∈ o.after, Region.binds .any e = true → SatD ops A a w e.on) →
      if Region.wanted o (yielded ops a.tmps) then OpOK P o a w (fun v w' => I w' ∧ G i w w' ∧ A i (slotD o v) w') else A i undef w)
    (hend : ∀ a w, I w → FrD ops a0 a → (∀ i, i < ops.size → SatD ops A a w i) → Q .normal a w) :
    ∀ (fuel : Nat) (listed : Array Bool) (a : Act) (w : World), listed.size = ops.size → listed.toList.count false ≤ fuel → InvD ops a0 I A listed a w → wpAny P .any ops Q fuel listed a w := by
  have hall : ∀ (listed : Array Bool), listed.size = ops.size → Region.ready .any ops listed = [] → ∀ i, i < ops.size → listed.getD i false = true := by
    intro listed hsz hr i
    induction i using Nat.strongRecOn with
    | ind i ih =>
      intro hi
      by_cases h : listed.getD i false = true
      · exact h
      · exfalso
        have hm : i ∈ Region.ready .any ops listed := by
          refine mem_ready.2 ⟨?_, ops[i], by simp [hi], fun e he hb => ?_⟩
          · simp [hsz, hi] at h ⊢; exact h
          · have := shapeD_back hsh (i := i) (o := ops[i]) (by simp [hi]) e he hb
            exact ih e.on this (by omega)
        rw [hr] at hm
        cases hm
  intro fuel
  induction fuel with
  | zero =>
    intro listed a w hsz hc hinv
    have hnone : ∀ i, i < ops.size → listed.getD i false = true := by
      intro i hi
      have hi' : i < listed.size := by omega
      have hb : listed[i] ≠ false := by
        intro e
        have : false ∈ listed.toList := by rw [← e]; simp
        have := List.count_pos_iff.2 this
        omega
      simp [hi', hb]
    refine ⟨?_, hend a w hinv.inv hinv.frD fun i hi => hinv.sat i (hnone i hi)⟩
    rw [List.eq_nil_iff_forall_not_mem]
    intro j hj
    obtain ⟨h1, o, ho, _⟩ := mem_ready.1 hj
    have hlt : j < ops.size := (Array.getElem?_eq_some_iff.1 ho).1
    have h2 := hnone j hlt
    have hj' : j < listed.size := by omega
    simp [hj'] at h1 h2
    rw [h1] at h2
    cases h2
  | succ fuel ih =>
    intro listed a w hsz hc hinv
    refine ⟨fun hr => hend a w hinv.inv hinv.frD fun i hi => hinv.sat i (hall listed hsz hr i hi), fun i hi => ?_⟩
    obtain ⟨h1, o, ho, hdeps⟩ := mem_ready.1 hi
    have hlt : i < ops.size := (Array.getElem?_eq_some_iff.1 ho).1
    have hlt' : i < listed.size := by omega
    have hfalse : listed[i] = false := by simpa [hlt'] using h1
    have hs := hstep i o ho a w hinv.inv hinv.frD fun e he hb => hinv.sat e.on (hdeps e he hb)
    have hcount : (listed.setIfInBounds i true).toList.count false ≤ fuel := by
      rw [Array.toList_setIfInBounds, List.count_set (by simpa using hlt')]
      have : false ∈ listed.toList := by rw [← hfalse]; simp
      have := List.count_pos_iff.2 this
      have e1 : listed.toList[i]'(by simpa using hlt') = false := by simpa using hfalse
      rw [e1]
      have e2 : ((true : Bool) == false) = false := rfl
      simp only [beq_self_eq_true, if_true, e2, Bool.false_eq_true, if_false]
      omega
    have next : ∀ v w', I w' → (w' = w ∨ G i w w') → A i (slotD o v) w' → InvD ops a0 I A (listed.setIfInBounds i true) (a.put o.dst v) w' := by
      intro v w' hI hG hA
      refine ⟨hI, by rw [defers_put]; exact hinv.def_, by rw [size_put]; exact hinv.size, ?_, ?_⟩
      · intro t ht
        have hne : o.dst ≠ some t := ht i o ho (getD_set_self hlt' false)
        have e1 : (a.put o.dst v).tmps.getD t undef = a.tmps.getD t undef := by
          cases hd : o.dst with
          | none => rfl
          | some d => exact getD_put_ne (by intro e; exact hne (by rw [hd, e]))
        rw [e1]
        exact hinv.fr t fun j oj hj hlj => by
          by_cases hij : i = j
          · subst hij; rw [ho] at hj; cases hj; exact hne
          · exact ht j oj hj (by rw [getD_set_ne' hij]; exact hlj)
      · intro j hj
        by_cases hij : i = j
        · subst hij
          intro oj hoj
          rw [ho] at hoj; cases hoj
          unfold slotD at hA
          cases hd : o.dst with
          | none => rw [hd] at hA; exact hA
          | some d =>
            have hdl : d < a.tmps.size := by rw [hinv.size]; exact shapeD_lt hsh ho hd
            simp only [getD_put_self hdl]
            rw [hd] at hA
            exact hA
        · rw [getD_set_ne' hij] at hj
          intro oj hoj
          have h3 := hinv.sat j hj oj hoj
          have hval : (match oj.dst with | some d => (a.put o.dst v).tmps.getD d undef | none => undef) = (match oj.dst with | some d => a.tmps.getD d undef | none => undef) := by
            cases hd : o.dst with
            | none => rfl
            | some d =>
              cases hdj : oj.dst with
              | none => rfl
              | some d' =>
                have := shapeD_ne hsh ho hoj hij hd
                rw [hdj] at this
                exact getD_put_ne (by intro e; exact this (by rw [e]))
          rw [hval]
          rcases hG with rfl | hG
          · exact h3
          · exact hst i j hij _ _ _ hG h3
    unfold wpOp
    simp only [ho]
    by_cases hw : Region.wanted o (yielded ops a.tmps) = true
    · rw [if_pos hw] at hs ⊢
      exact .inl (hs.wp fun v w' ⟨hI, hG, hA⟩ => ih _ _ _ (by simpa using hsz) hcount (next v w' hI (.inr hG) hA))
    · rw [if_neg hw] at hs ⊢
      exact ih _ _ _ (by simpa using hsz) hcount (next undef w hinv.inv (.inl rfl) (by unfold slotD; split <;> exact hs))
/-- The frame behind the region: the operations' slots hold these values. -/
def putsD (a : Act) : List Oper → List Value → Act
  | o :: os, v :: vs => putsD (a.put o.dst v) os vs
  | _, _ => a
theorem putsD_get : ∀ (l : List Oper) (vs : List Value) (a : Act) (t : Nat), l.length = vs.length → (∀ o ∈ l, o.dst ≠ some t) → (putsD a l vs).tmps.getD t undef = a.tmps.getD t undef
  | [], [], _, _, _, _ => rfl
  | o :: l, v :: vs, a, t, hl, h => by
    rw [putsD, putsD_get l vs _ t (by simpa using hl) fun o' ho' => h o' (List.mem_cons_of_mem _ ho')]
    have h0 := h o (by simp)
    cases hd : o.dst with
    | none => rfl
    | some d => exact getD_put_ne (by intro e; exact h0 (by rw [hd, e]))
theorem putsD_size : ∀ (l : List Oper) (vs : List Value) (a : Act), (putsD a l vs).tmps.size = a.tmps.size
  | [], _, _ => by simp [putsD]
  | _ :: _, [], _ => by simp [putsD]
  | o :: l, v :: vs, a => by rw [putsD, putsD_size l vs, size_put]
theorem putsD_defers : ∀ (l : List Oper) (vs : List Value) (a : Act), (putsD a l vs).defers = a.defers
  | [], _, _ => by simp [putsD]
  | _ :: _, [], _ => by simp [putsD]
  | o :: l, v :: vs, a => by rw [putsD, putsD_defers l vs, defers_put]
theorem putsD_at (l : List Oper) : ∀ (vs : List Value) (a : Act) (i d : Nat) (o : Oper) (v : Value), l.length = vs.length → l[i]? = some o → vs[i]? = some v → o.dst = some d → d < a.tmps.size →
    (∀ j o', j ≠ i → l[j]? = some o' → o'.dst ≠ some d) → (putsD a l vs).tmps.getD d undef = v := by
  induction l with
  | nil => intro vs a i d o v _ ho; simp at ho
  | cons o' l ih =>
    intro vs a i d o v hl ho hv hd hlt hne
    cases vs with
    | nil => simp at hv
    | cons v' vs =>
      rw [putsD]
      cases i with
      | zero =>
        simp only [List.getElem?_cons_zero, Option.some.injEq] at ho hv
        subst ho hv
        rw [putsD_get l vs _ d (by simpa using hl) fun o'' ho'' => by
          obtain ⟨j, hj, e⟩ := List.mem_iff_getElem.1 ho''
          exact hne (j + 1) o'' (by omega) (by rw [List.getElem?_cons_succ, List.getElem?_eq_getElem hj, e])]
        rw [hd]
        exact getD_put_self hlt
      | succ i =>
        exact ih vs _ i d o v (by simpa using hl) (by simpa using ho) (by simpa using hv) hd (by rw [size_put]; exact hlt) fun j o'' hj ho'' => hne (j + 1) o'' (by omega) (by simpa using ho'')
theorem wpAny_start {l : List Oper} {Q : Exit → Act → World → Prop} {a0 : Act} {w0 : World} (I : World → Prop) (A : Nat → Value → World → Prop) (G : Nat → World → World → Prop)
    (hsh : shapeD a0.tmps.size l.toArray = true) (hI : I w0.drew)
    (hst : ∀ i j, i ≠ j → ∀ v w w', G i w w' → A j v w → A j v w')
    (hstep : ∀ i o, l[i]? = some o → ∀ a w, I w → FrD l.toArray a0 a → (∀ e ∈ o.after, Region.binds .any e = true → SatD l.toArray A a w e.on) →
      if Region.wanted o (yielded l.toArray a.tmps) then OpOK P o a w (fun v w' => I w' ∧ G i w w' ∧ A i (slotD o v) w') else A i undef w)
    (hend : ∀ (vs : List Value) w, vs.length = l.length → I w → (∀ i v, vs[i]? = some v → A i v w) → Q .normal (putsD a0 l vs) w) : wpAny P .any l.toArray Q l.toArray.size (Array.replicate l.toArray.size false) a0 w0.drew := by
  refine wpAny_D (I := I) (A := A) (G := G) hsh hst (fun i o ho => hstep i o (by simpa using ho)) ?_ _ _ _ _ (by simp) ?_ ⟨hI, rfl, rfl, fun _ _ => rfl, fun i hi => ?_⟩
  · intro a w hIw hF hS
    let vs : List Value := l.map fun (o : Oper) => match o.dst with | some d => a.tmps.getD d undef | none => undef
    have hvl : vs.length = l.length := by simp [vs]
    have ha : a = putsD a0 l vs := by
      have h1 : a.tmps = (putsD a0 l vs).tmps := by
        apply Array.ext
        · rw [putsD_size, hF.2.1]
        · intro t ht1 ht2
          have key : a.tmps.getD t undef = (putsD a0 l vs).tmps.getD t undef := by
            by_cases hex : ∃ (i : Nat) (o : Oper), l[i]? = some o ∧ o.dst = some t
            · obtain ⟨i, o, ho, hd⟩ := hex
              have hlt : t < a0.tmps.size := shapeD_lt hsh (i := i) (o := o) (by simpa using ho) hd
              refine (putsD_at l vs a0 i t o (a.tmps.getD t undef) hvl.symm ho ?_ hd hlt fun j o' hj ho' => ?_).symm
              · simp [vs, ho, hd]
              · exact shapeD_ne hsh (i := i) (j := j) (o := o) (o' := o') (by simpa using ho) (by simpa using ho') (Ne.symm hj) hd
            · rw [putsD_get l vs a0 t hvl.symm fun o ho hd => hex ?_]
              · exact hF.2.2 t fun i o ho hd => hex ⟨i, o, by simpa using ho, hd⟩
              · obtain ⟨j, hj, e⟩ := List.mem_iff_getElem.1 ho
                exact ⟨j, o, by rw [List.getElem?_eq_getElem hj, e], hd⟩
          simpa [ht1, ht2] using key
      have h2 : a.defers = (putsD a0 l vs).defers := by rw [putsD_defers, hF.1]
      cases a
      generalize hp : putsD a0 l vs = b at *
      cases b
      simp_all
    rw [ha]
    refine hend vs w hvl hIw fun i v hv => ?_
    have hi : i < l.length := by rw [← hvl]; exact (List.getElem?_eq_some_iff.1 hv).1
    have h3 := hS i (by simpa using hi) l[i] (by simp [hi])
    have h4 : v = (match l[i].dst with | some d => a.tmps.getD d undef | none => undef) := by
      simp only [vs, List.getElem?_map, List.getElem?_eq_getElem hi, Option.map_some, Option.some.injEq] at hv
      exact hv.symm
    rw [h4]
    exact h3
  · rw [Array.toList_replicate, List.count_replicate_self]; exact Nat.le_refl _
  · exfalso
    rw [Array.getD_eq_getD_getElem?, Array.getElem?_replicate] at hi
    split at hi <;> simp at hi
end
end Go.Proofs.Ytohdkmgnnncpkaa

/- A region that draws its order, by what each slot holds behind it: plain values, rows of the call's own. Over any program; no condition. -/
namespace Go.Proofs.Ytohdkmgnnncpkaa
open Go.RowKit
section
variable {P : Program} {ρ : Operand → Value} {dst : Option Tmp} {ty : TypeId} {pos : String} {after : Array Edge} {guard : Option (Nat × Bool)}
theorem ex_move {x : Operand} {v : Value} (hx : ρ x = v) (w : World) : (execOp ρ { dst := dst, op := .move x, type := ty, pos := pos, after := after, guard := guard }).run P w = .ok (.value v) w := by
  simp only [execOp, hx, Sem.run_pure]
theorem ex_assign {x : Operand} {v : Value} (hx : ρ x = v) (w : World) : (execOp ρ { dst := dst, op := .assign x, type := ty, pos := pos, after := after, guard := guard }).run P w = .ok (.value v) w := by
  simp only [execOp, hx, Sem.run_pure]
theorem ex_pick {c x y : Operand} {b : Bool} {v : Value} (hc : ρ c = .bool b) (hv : (if b then ρ x else ρ y) = v) (w : World) : (execOp ρ { dst := dst, op := .pick c x y, type := ty, pos := pos, after := after, guard := guard }).run P w = .ok (.value v) w := by
  simp only [execOp, hc, asBool, Sem.run_bind, Sem.run_pure, Result.andThen_ok, hv]
theorem ex_index {t e : TypeId} {sz bytes : Nat} (hE : Elem P t e sz bytes) {x i : Operand} {ad : Addr} {n c j : Nat} {q : Int} {k : IntKind} (hx : ρ x = .slice (some ad) n c) (hi : ρ i = .int k q) (hq : q = (j : Int)) (hj : j < n) (w : World) :
    (execOp ρ { dst := dst, op := .indexAddr t x i, type := ty, pos := pos, after := after, guard := guard }).run P w = .ok (.value (.pointer (some (ad.add (j * sz))))) w := by
  subst hq
  obtain ⟨ht, hsz, _, ii, z, hi', _, hsize, _, _⟩ := hE
  have h2 : ∀ w, (sizeOf e).run P w = .ok sz w := run_sizeOf (by rw [hi']; simp [hsize])
  have hc : (0 : Int) ≤ (j : Int) ∧ (j : Int) < n := by omega
  simp only [execOp, hx, hi, Instr.indexAt, asIntOf, Sem.run_bind, Sem.run_pure, Result.andThen_ok, run_underlying ht, h2, hc, and_self, if_true, Int.toNat_natCast]
theorem ex_len {t e : TypeId} (ht : P.underlying t = some (.slice e)) {x : Operand} {ao : Option Addr} {n c : Nat} (hx : ρ x = .slice ao n c) (w : World) :
    (execOp ρ { dst := dst, op := .call { callee := .builtin .len, args := #[x], argTypes := #[t] }, type := ty, pos := pos, after := after, guard := guard }).run P w = .ok (.value (.int .i64 n)) w := by
  rw [BigFrame.execOp_builtin, BigFrame.builtin_len]
  simp [hx, Builtin.len_, run_underlying ht, goInt]
theorem ex_cmp {op : BinOp} {t yt : TypeId} {x y : Operand} {k : IntKind} {p q : Int} {b : Bool} (ho : isCmp op = true) (hx : ρ x = .int k p) (hy : ρ y = .int k q) (hb : cmpB op p q = b) (w : World) :
    (execOp ρ { dst := dst, op := .binOp op t x y yt, type := ty, pos := pos, after := after, guard := guard }).run P w = .ok (.value (.bool b)) w := by
  simp only [execOp, hx, hy, Sem.run_bind, eqGuard_at_int, Sem.run_pure, Result.andThen_ok, run_cmp ho, hb]
theorem ex_arith {op : BinOp} {t yt : TypeId} {x y : Operand} {k : IntKind} {p q r : Int} (ho : isArith op = true) (hx : ρ x = .int k p) (hy : ρ y = .int k q) (hr : k.wrap (arithI op p q) = r) (w : World) :
    (execOp ρ { dst := dst, op := .binOp op t x y yt, type := ty, pos := pos, after := after, guard := guard }).run P w = .ok (.value (.int k r)) w := by
  have he : ∀ u v, eqGuard op t x y u v = pure () := by intro u v; cases op <;> simp [isArith] at ho <;> rfl
  simp only [execOp, hx, hy, Sem.run_bind, he, Sem.run_pure, Result.andThen_ok, run_arith ho, hr]
theorem ex_not {t : TypeId} {x : Operand} {b : Bool} (hx : ρ x = .bool b) (w : World) : (execOp ρ { dst := dst, op := .unOp .not t x, type := ty, pos := pos, after := after, guard := guard }).run P w = .ok (.value (.bool !b)) w := by
  simp [execOp, hx, Op.unary]
/-- x[k:] -/
theorem ex_slice_from {t e : TypeId} {sz bytes : Nat} (hE : Elem P t e sz bytes) {x lo : Operand} {ao : Option Addr} {n c j : Nat} {q : Int} {k : IntKind} (hx : ρ x = .slice ao n c) (hi : ρ lo = .int k q) (hq : q = (j : Int)) (hj : j ≤ n) (w : World) :
    (execOp ρ { dst := dst, op := .slice t x (some lo) none none, type := ty, pos := pos, after := after, guard := guard }).run P w = .ok (.value (.slice (if c = j then ao else ao.map (·.add (j * sz))) (n - j) (c - j))) w := by
  subst hq
  obtain ⟨ht, hsz, _, ii, z, hi', _, hsize, _, _⟩ := hE
  have h2 : ∀ w, (sizeOf e).run P w = .ok sz w := run_sizeOf (by rw [hi']; simp [hsize])
  have hc : (0 : Int) ≤ (j : Int) ∧ (j : Int) ≤ n := by omega
  simp [execOp, hx, hi, Instr.sliceAt, Instr.slice, Instr.sliceBounds, Instr.sliceBound, asIntOf, run_underlying ht, h2, hj]
end
theorem Sl.drop {w : World} {ao : Option Addr} {n c sz j : Nat} {cs : List Value} (h : Sl w (.slice ao n c) sz n cs) (hj : j ≤ n) : Sl w (.slice (if c = j then ao else ao.map (·.add (j * sz))) (n - j) (c - j)) sz (n - j) (cs.drop (j * sz)) := by
  obtain ⟨ao', cap, e, hc, hl, hcell⟩ := h
  simp only [Value.slice.injEq, true_and] at e
  obtain ⟨rfl, rfl⟩ := e
  refine ⟨_, _, rfl, by omega, by rw [List.length_drop, hl, Nat.sub_mul], fun i u hu => ?_⟩
  rw [List.getElem?_drop] at hu
  obtain ⟨a, ha, h⟩ := hcell _ _ hu
  subst ha
  have hlt : j * sz + i < n * sz := by
    have := (List.getElem?_eq_some_iff.1 hu).1
    omega
  have hne : c ≠ j := by
    intro e
    have : n = j := by omega
    subst this
    omega
  rw [if_neg hne]
  refine ⟨_, rfl, ?_⟩
  have e2 : (a.add (j * sz)).add i = a.add (j * sz + i) := by
    unfold Addr.add; split <;> split <;> simp_all <;> omega
  rw [e2]
  exact h

theorem Sl.dropm {w : World} {ao : Option Addr} {n c sz j : Nat} {cs : List Value} (h : Sl w (.slice ao n c) sz n cs) (hj : j < n) : Sl w (.slice (ao.map (·.add (j * sz))) (n - j) (c - j)) sz (n - j) (cs.drop (j * sz)) := by
  have := h.drop (j := j) (by omega)
  rwa [if_neg (by have := h.cap.2; omega)] at this

structure Asr where
  p : Value → World → Prop
  st : ∀ v w w', p v w → Below w.heap.size w w' → p v w'
def Asr.is (u : Value) : Asr := ⟨fun v _ => v = u, fun _ _ _ h _ => h⟩
def Asr.any : Asr := ⟨fun _ _ => True, fun _ _ _ _ _ => trivial⟩
theorem ownsRow_below {w w' : World} {base : Nat} {e : TypeId} {sz n : Nat} {v : Value} {xs : List Value} (h : w.ownsRow base e sz v n xs) (hb : Below w.heap.size w w') : w'.ownsRow base e sz v n xs := by
  refine ⟨h.1, ?_⟩
  rcases h.2 with hn | ⟨g, cap, cur, hv, hgb, hh, rest⟩
  · exact .inl hn
  · exact .inr ⟨g, cap, cur, hv, hgb, (hb.block g (Array.getElem?_eq_some_iff.1 hh).1).trans hh, rest⟩
/-- A row that the region has made. -/
def Asr.row (base : Nat) (e : TypeId) (sz n : Nat) (xs : List Value) : Asr := ⟨fun v w => w.ownsRow base e sz v n xs, fun _ _ _ h hb => ownsRow_below h hb⟩
/-- A row that is full. -/
def Asr.full (base : Nat) (e : TypeId) (sz n : Nat) (xs : List Value) : Asr := ⟨fun v w => (∃ ao, v = .slice ao n n) ∧ w.ownsRow base e sz v n xs, fun _ _ _ h hb => ⟨h.1, ownsRow_below h.2 hb⟩⟩
def Asr.sl (sz n : Nat) (cs : List Value) : Asr := ⟨fun v w => Sl w v sz n cs, fun _ _ _ h hb => h.below hb⟩
theorem OpOK.mono {P : Program} {o : Oper} {a : Act} {w : World} {R R' : Value → World → Prop} (h : OpOK P o a w R) (hR : ∀ v w', R v w' → R' v w') : OpOK P o a w R' := by
  unfold OpOK at *
  generalize (execOp a.eval o).run P w = r at *
  cases r with
  | halt x w' => exact h.elim
  | ok n w' =>
    cases n <;> first | exact h.elim | exact hR _ _ h | skip
    exact Calls.mono h fun e w'' ⟨v, he, hr⟩ => ⟨v, he, hR _ _ hr⟩
/-- Each by its place. -/
def eachD (X : Nat → Oper → Prop) : Nat → List Oper → Prop
  | _, [] => True
  | i, o :: r => X i o ∧ eachD X (i + 1) r
theorem eachD_get (X : Nat → Oper → Prop) : ∀ (l : List Oper) (k : Nat), eachD X k l → ∀ i o, l[i]? = some o → X (k + i) o
  | [], _, _, i, o, h => by simp at h
  | o' :: l, k, h, i, o, ho => by
    cases i with
    | zero => simp only [List.getElem?_cons_zero, Option.some.injEq] at ho; subst ho; exact h.1
    | succ i =>
      have := eachD_get X l (k + 1) h.2 i o (by simpa using ho)
      rw [show k + 1 + i = k + (i + 1) by omega] at this
      exact this
/-- What holds behind the region: the slots' values, one by one. -/
def endD (w : World) : List Asr → (List Value → Prop) → Prop
  | [], Q => Q []
  | A :: L, Q => ∀ v, A.p v w → endD w L fun vs => Q (v :: vs)
theorem endD_get {w : World} : ∀ (L : List Asr) (Q : List Value → Prop), endD w L Q → ∀ vs : List Value, vs.length = L.length → (∀ i v, vs[i]? = some v → (L.getD i Asr.any).p v w) → Q vs
  | [], Q, h, vs, hl, _ => by
    have : vs = [] := List.eq_nil_of_length_eq_zero (by simpa using hl)
    subst this; exact h
  | A :: L, Q, h, vs, hl, hs => by
    cases vs with
    | nil => simp at hl
    | cons v vs =>
      exact endD_get L (fun vs => Q (v :: vs)) (h v (hs 0 v rfl)) vs (by simpa using hl) fun i u hu => by
        have := hs (i + 1) u (by simpa using hu)
        simpa using this
/-- What operation i of the region has to show. -/
def ShowD (P : Program) (l : List Oper) (a0 : Act) (I : World → Prop) (L : List Asr) (i : Nat) (o : Oper) : Prop :=
  ∀ a w, I w → FrD l.toArray a0 a → (∀ e ∈ o.after, Region.binds .any e = true → SatD l.toArray (fun i => (L.getD i Asr.any).p) a w e.on) →
    if Region.wanted o (yielded l.toArray a.tmps) then OpOK P o a w (fun v w' => Below w.heap.size w w' ∧ (L.getD i Asr.any).p (slotD o v) w') else (L.getD i Asr.any).p undef w
theorem eachD_nil {X : Nat → Oper → Prop} {i : Nat} : eachD X i [] := trivial
theorem eachD_cons {X : Nat → Oper → Prop} {i : Nat} {o : Oper} {r : List Oper} (h : X i o) (t : eachD X (i + 1) r) : eachD X i (o :: r) := ⟨h, t⟩
def notDst (t : Tmp) (l : List Oper) : Bool := l.all fun o => match o.dst with | some d => decide (d ≠ t) | none => true
theorem notDst_of {t : Tmp} {l : List Oper} (h : notDst t l = true) : ∀ (i : Nat) (o : Oper), l.toArray[i]? = some o → o.dst ≠ some t := by
  intro i o ho e
  have hm : o ∈ l := List.mem_of_getElem? (by simpa using ho)
  have := List.all_eq_true.1 h o hm
  rw [e] at this
  simp at this
theorem wantD {o : Oper} {y : Nat → Option Bool} {p q : Prop} (hw : Region.wanted o y = true) (h : p) : if Region.wanted o y = true then p else q := by rw [if_pos hw]; exact h
theorem wanted_of {ops : Array Oper} {a : Act} {o : Oper} {j : Nat} {d : Tmp} {b want r : Bool} (hg : o.guard = some (j, want)) (hd : (ops[j]?).bind (·.dst) = some d) (hv : a.eval (.tmp d) = .bool b) (hr : (b == want) = r) :
    Region.wanted o (yielded ops a.tmps) = r := by
  have hy : yielded ops a.tmps j = some b := by
    unfold yielded
    rw [hd]
    simp only [Act.eval, Array.getD_eq_getD_getElem?] at hv
    cases h : a.tmps[d]? with
    | none => rw [h] at hv; exact absurd hv (by unfold undef; simp)
    | some u => rw [h] at hv; simp only [Option.getD_some] at hv; subst hv; simp [h]
  unfold Region.wanted
  rw [hg]
  simp only [hy]
  subst hr
  cases b <;> cases want <;> rfl
section
variable {P : Program} {w0 w : World} {S : List Nat} {bs : List (Nat × Obj)} {rows : List Row} {a0 : Act} {Q : Exit → Act → World → Prop}
theorem wpAny_R {l : List Oper} (L : List Asr) (hH : Holds w0 S bs rows w) (hsh : shapeD a0.tmps.size l.toArray = true) (hlen : L.length = l.length)
    (hstep : eachD (ShowD P l a0 (fun w' => Holds w0 S bs rows w' ∧ Below w.heap.size w w') L) 0 l)
    (hend : ∀ w', Holds w0 S bs rows w' → Below w.heap.size w w' → endD w' L fun vs => Q .normal (putsD a0 l vs) w') : wpAny P .any l.toArray Q l.toArray.size (Array.replicate l.toArray.size false) a0 w.drew := by
  refine wpAny_start (fun w' => Holds w0 S bs rows w' ∧ Below w.heap.size w w') (fun i => (L.getD i Asr.any).p) (fun _ w w' => Below w.heap.size w w') hsh ⟨hH.drew, below_drew w⟩ ?_ ?_ ?_
  · intro i j _ v w w' hb hA
    exact (L.getD j Asr.any).st v w w' hA hb
  · intro i o ho a w1 hI hF hS
    have h := eachD_get _ l 0 hstep i o ho a w1 hI hF hS
    rw [Nat.zero_add] at h
    split
    · rename_i hw
      rw [if_pos hw] at h
      exact h.mono fun v w' h => ⟨⟨hI.1.grow h.1, hI.2.trans (h.1.mono hI.2.size)⟩, h⟩
    · rename_i hw
      rw [if_neg hw] at h
      exact h
  · intro vs w' hl hI hA
    exact endD_get L _ (hend w' hI.1 hI.2) vs (by rw [hl, hlen]) hA
theorem wp_region_R {id : Nat} {l : List Oper} (L : List Asr) (hH : Holds w0 S bs rows w) (hm : P.follows .mixedOrders = true) (hsh : shapeD a0.tmps.size l.toArray = true) (hlen : L.length = l.length)
    (hstep : eachD (ShowD P l a0 (fun w' => Holds w0 S bs rows w' ∧ Below w.heap.size w w') L) 0 l)
    (hend : ∀ w', Holds w0 S bs rows w' → Below w.heap.size w w' → endD w' L fun vs => Q .normal (putsD a0 l vs) w') : (Code.region id l.toArray true).wp P Q a0 w :=
  wp_region_any hm (wpAny_R L hH hsh hlen hstep hend)
/-- A plain operation. -/
theorem op_val {o : Oper} {a : Act} {v : Value} {A : Value → World → Prop} {d : Tmp} (hd : o.dst = some d) (hr : (execOp a.eval o).run P w = .ok (.value v) w) (hA : A v w) :
    OpOK P o a w (fun v w' => Below w.heap.size w w' ∧ A (slotD o v) w') := by
  unfold OpOK; rw [hr]
  refine ⟨Below.refl _ _, ?_⟩
  unfold slotD; rw [hd]; exact hA
theorem op_new {o : Oper} {a : Act} {v : Value} {w' : World} {A : Value → World → Prop} {d : Tmp} (hd : o.dst = some d) (hr : (execOp a.eval o).run P w = .ok (.value v) w') (hb : Below w.heap.size w w') (hA : A v w') :
    OpOK P o a w (fun v w' => Below w.heap.size w w' ∧ A (slotD o v) w') := by
  unfold OpOK; rw [hr]
  refine ⟨hb, ?_⟩
  unfold slotD; rw [hd]; exact hA
theorem op_call {f : FuncId} (hf : Body P f) {a : Act} {d : Tmp} {ty : TypeId} {pos : String} {after : Array Edge} {guard : Option (Nat × Bool)} {xs : Array Operand} {ats : Array TypeId} {args : Array Value} {A : Value → World → Prop} (ha : (xs.toList.map a.eval).toArray = args)
    (hc : Calls P f args w fun e w' => ∃ v, e = .returned v ∧ Below w.heap.size w w' ∧ A v w') :
    OpOK P { dst := some d, op := .call { callee := .value (.func f), args := xs, argTypes := ats }, type := ty, pos := pos, after := after, guard := guard } a w (fun v w' => Below w.heap.size w w' ∧ A (slotD { dst := some d, op := .call { callee := .value (.func f), args := xs, argTypes := ats }, type := ty, pos := pos, after := after, guard := guard } v) w') := by
  unfold OpOK
  rw [ex_call hf (args := args) (by rw [← ha, ← Array.toList_map, Array.toArray_toList]) w]
  exact hc
end
section
variable {P : Program} {w : World} {ρ : Operand → Value} {dst : Option Tmp} {ty : TypeId} {pos : String} {after : Array Edge} {guard : Option (Nat × Bool)}
/-- A literal's row. -/
theorem ex_buildArr {t e : TypeId} {sz bytes : Nat} (hE : Elem P t e sz bytes) (l : List (Arr sz)) {parts : Array (Nat × Operand)} {n : Nat}
    (hn : n = l.length) (hp : (parts.toList.map fun p => (p.1, ρ p.2)) = ((l.map Arr.val).zipIdx 0).map fun p => (p.2, p.1)) (hb : n * sz ≤ 16777216) (w : World) :
    ∃ v w', (execOp ρ { dst := dst, op := .buildSlice t n parts, type := ty, pos := pos, after := after, guard := guard }).run P w = .ok (.value v) w' ∧ Below w.heap.size w w' ∧
      ∀ base, base ≤ w.heap.size → (∃ ao, v = .slice ao n n) ∧ w'.ownsRow base e sz v n (flat l) := by
  have hv : ∀ v ∈ l.map Arr.val, v.cells.size = sz := by
    intro v hv
    obtain ⟨x, _, rfl⟩ := List.mem_map.1 hv
    simp [Arr.val, Value.cells, Arr.len]
  have h := run_buildSlice (P := P) hE (l.map Arr.val) hv (by simpa [← hn] using hb) w
  have hx : (l.map Arr.val).flatMap (·.cells.toList) = flat l := by rw [List.flatMap_map]; rfl
  rw [hx, List.length_map, ← hn] at h
  have hb2 : n * 1 ≤ n * sz := Nat.mul_le_mul_left _ hE.2.1
  refine ⟨_, w.alloc (.cells (flat l).toArray e), ?_, below_alloc w _, fun base hbase => ⟨⟨_, rfl⟩, by rw [flat_len, ← hn], .inr ⟨w.heap.size, n, _, rfl, hbase, heap_alloc_new w _, Nat.le_refl _, by unfold maxLen; omega, ?_, ?_⟩⟩⟩
  · simp only [execOp, Sem.run_bind]
    rw [show (parts.map fun x => match x with | (i, y) => (i, ρ y)) = (parts.toList.map fun p => (p.1, ρ p.2)).toArray by rw [← Array.toList_map, Array.toArray_toList], hp, h]
    rfl
  · simp [flat_len, ← hn]
  · rw [hn, ← flat_len, List.take_length]
/-- append onto a row that is full. -/
theorem ex_append_full {t e : TypeId} {sz bytes : Nat} (hE : Elem P t e sz bytes) {base : Nat} {v x : Value} {n m : Nat} {xs news : List Value} (hv : (∃ ao, v = .slice ao n n) ∧ w.ownsRow base e sz v n xs) (hx : Sl w x sz m news) (h1 : ∀ u ∈ news, u.oneCell' = true)
    (hb : (n + m) * bytes ≤ 140737488355328) (hbase : base ≤ w.heap.size) {s y : Operand} (hs : ρ s = v) (hy : ρ y = x) :
    ∃ v' w', (execOp ρ { dst := dst, op := .call { callee := .builtin .append, args := #[s, y], argTypes := #[t, t] }, type := ty, pos := pos, after := after, guard := guard }).run P w = .ok (.value v') w' ∧
      Below w.heap.size w w' ∧ w'.ownsRow base e sz v' (n + m) (xs ++ news) := by
  obtain ⟨⟨ao, rfl⟩, ho⟩ := hv
  obtain ⟨ht, hsz, hb1, i, z, hi, hz, hsize, hby, hzs⟩ := hE
  have hb2 : (n + m) * 1 ≤ (n + m) * bytes := Nat.mul_le_mul_left _ hb1
  obtain ⟨v', w', hr, h2, h3, h4, h5⟩ := run_append_row (P := P) t ty e i z sz bytes ht hi hz hsize hby hzs hsz ho hx h1 (by unfold maxLen; omega) hb hbase
  refine ⟨v', w', ?_, ?_, h2⟩
  · rw [BigFrame.execOp_builtin, BigFrame.builtin_append]
    simp only [Sem.run_bind, List.map_toArray, List.map_cons, List.map_nil, hs, hy, hr, Result.andThen_ok, Sem.run_pure]
  · exact h5 ⟨ao, rfl⟩
end
end Go.Proofs.Ytohdkmgnnncpkaa

/- Results that lie in variables of the call's own. Over any program. No condition. -/
namespace Go.Proofs.Ytohdkmgnnncpkaa
open Go.RowKit
section
variable {P : Program} {w w0 : World} {S : List Nat} {bs : List (Nat × Obj)} {rows : List Row}
/-- What one result's slot gives. -/
def ResAt (P : Program) (w : World) (tmps : Array Value) (r : ResultVar) (v : Value) : Prop :=
  match r with
  | .tmp t => tmps.getD t undef = v
  | .cell a t => ∃ ad, tmps.getD a undef = .pointer (some ad) ∧ (loadVar t ad).run P w = .ok v w
def resOne (tmps : Array Value) (r : ResultVar) : Sem Value :=
  match r with
  | .tmp t => pure (tmps.getD t undef)
  | .cell a t => do loadVar t (← asAddr (tmps.getD a undef))
theorem run_resOne {tmps : Array Value} {r : ResultVar} {v : Value} (h : ResAt P w tmps r v) : (resOne tmps r).run P w = .ok v w := by
  cases r with
  | tmp t => simp only [ResAt] at h; simp [resOne, h]
  | cell a t =>
    obtain ⟨ad, h1, h2⟩ := h
    simp [resOne, h1, asAddr, h2]
theorem results_eq (fn : Func) (tmps : Array Value) : results fn tmps = (do let vs ← fn.results.mapM (resOne tmps); pure (if h : vs.size = 1 then vs[0] else .tuple vs)) := by
  unfold results
  congr 1
theorem res1 {fn : Func} {tmps : Array Value} {r1 : ResultVar} {v1 : Value} (h : fn.results = #[r1]) (h1 : ResAt P w tmps r1 v1) : (results fn tmps).run P w = .ok v1 w := by
  rw [results_eq, h]
  simp [run_resOne h1]
theorem res2 {fn : Func} {tmps : Array Value} {r1 r2 : ResultVar} {v1 v2 : Value} (h : fn.results = #[r1, r2]) (h1 : ResAt P w tmps r1 v1) (h2 : ResAt P w tmps r2 v2) : (results fn tmps).run P w = .ok (.tuple #[v1, v2]) w := by
  rw [results_eq, h]
  simp [run_resOne h1, run_resOne h2]
theorem res3 {fn : Func} {tmps : Array Value} {r1 r2 r3 : ResultVar} {v1 v2 v3 : Value} (h : fn.results = #[r1, r2, r3]) (h1 : ResAt P w tmps r1 v1) (h2 : ResAt P w tmps r2 v2) (h3 : ResAt P w tmps r3 v3) : (results fn tmps).run P w = .ok (.tuple #[v1, v2, v3]) w := by
  rw [results_eq, h]
  simp [run_resOne h1, run_resOne h2, run_resOne h3]
theorem resA {tmps : Array Value} {n : Nat} {t e : TypeId} (hA : AggT P t n) {a : Tmp} {g : Nat} {v : Arr n} (hH : Holds w0 S bs rows w) (ht : tmps.getD a undef = .pointer (some ⟨g, 0, none⟩)) (ho : Own bs g (objA v e)) : ResAt P w tmps (.cell a t) v.val := by
  obtain ⟨d, hu, hd, hi⟩ := hA
  refine ⟨_, ht, ?_⟩
  refine run_loadVar_agg hu hd hi (Arr.len v) fun j u hu' => ?_
  have hadd : (⟨g, 0, none⟩ : Addr).add j = ⟨g, j, none⟩ := by unfold Addr.add; split <;> simp_all
  rw [hadd, cell_own hH ho j]
  simpa using hu'
theorem resO {tmps : Array Value} {t e : TypeId} {d : TypeDesc} (hu : P.underlying t = some d) (hd : aggD d = false) {a : Tmp} {g : Nat} {v : Value} (hH : Holds w0 S bs rows w) (ht : tmps.getD a undef = .pointer (some ⟨g, 0, none⟩)) (ho : Own bs g (.cells #[v] e)) : ResAt P w tmps (.cell a t) v := by
  refine ⟨_, ht, ?_⟩
  have h1 : (isAgg t).run P w = .ok false w := by
    simp only [isAgg, Sem.run_bind, run_underlying hu, Result.andThen_ok]
    cases d <;> simp_all [aggD]
  have hc : w.cell? ⟨g, 0, none⟩ = some v := by rw [cell_own hH ho 0]; rfl
  simp only [loadVar, Sem.run_bind, h1, Result.andThen_ok, Bool.false_eq_true, if_false, run_load, hc]
end
theorem Sl.take {w : World} {ao : Option Addr} {n c sz j : Nat} {cs : List Value} (h : Sl w (.slice ao n c) sz n cs) (hj : j ≤ n) : Sl w (.slice ao j c) sz j (cs.take (j * sz)) := by
  obtain ⟨ao', cap, e, hc, hl, hcell⟩ := h
  simp only [Value.slice.injEq, true_and] at e
  obtain ⟨rfl, rfl⟩ := e
  have hle : j * sz ≤ n * sz := Nat.mul_le_mul_right _ hj
  refine ⟨_, _, rfl, by omega, by rw [List.length_take, hl]; omega, fun i u hu => ?_⟩
  rw [List.getElem?_take] at hu
  split at hu
  · exact hcell _ _ hu
  · cases hu
section
variable {P : Program} {ops : Array Oper} {rest : List Oper} {a : Act} {dst : Option Tmp} {ty : TypeId} {pos : String} {after : Array Edge} {guard : Option (Nat × Bool)} {C : World → Prop} {K : Act → Prop}
end
end Go.Proofs.Ytohdkmgnnncpkaa

/- A region that draws its order, of which the last operations come last whatever is drawn. Over any program; no condition. -/
namespace Go.Proofs.Ytohdkmgnnncpkaa
open Go.RowKit
section
variable {P : Program}
/-- Operation i waits for operation j. -/
def waits (ops : Array Oper) (i j : Nat) : Bool := ((ops[i]?).map fun (o : Oper) => o.after.toList.any fun e => Region.binds .any e && decide (e.on = j)).getD false
/-- Edges and guards lead back; behind each of the first k operations there is one up to k that waits for it; behind k each waits for the one before. -/
def tailB (ops : Array Oper) (k : Nat) : Bool :=
  decide (k ≤ ops.size) &&
  ((List.range ops.size).all fun i => ((ops[i]?).map fun (o : Oper) => (o.after.toList.all fun e => !Region.binds .any e || decide (e.on < i)) && (match o.guard with | some (g, _) => decide (g < i) | none => true)).getD true) &&
  ((List.range k).all fun j => (List.range (k + 1)).any fun i => decide (j < i) && waits ops i j) &&
  ((List.range ops.size).all fun i => decide (i ≤ k) || waits ops i (i - 1))
/-- The edges that bind. -/
def backB (ops : Array Oper) : Bool := (List.range ops.size).all fun i => ((ops[i]?).map fun (o : Oper) => o.after.toList.all fun e => !Region.binds .any e || decide (e.on < i)).getD true
def Qt (P : Program) (ops : Array Oper) (Q : Exit → Act → World → Prop) (tl : List Oper) : Exit → Act → World → Prop
  | .normal, a, w => wpList P ops Q tl a w
  | x, a, w => Q x a w
theorem waits_dep {ops : Array Oper} {i j : Nat} (h : waits ops i j = true) {o : Oper} (ho : ops[i]? = some o) {listed : Array Bool} (hd : ∀ e ∈ o.after, Region.binds .any e = true → listed.getD e.on false = true) : listed.getD j false = true := by
  unfold waits at h
  rw [ho] at h
  simp only [Option.map_some, Option.getD_some, List.any_eq_true, Bool.and_eq_true, decide_eq_true_eq] at h
  obtain ⟨e, he, hb, rfl⟩ := h
  exact hd e (Array.mem_toList_iff.1 he) hb
theorem wp_Qt {ops : Array Oper} {Q : Exit → Act → World → Prop} {tl : List Oper} {o : Oper} {a : Act} {w : World} {K : Act → World → Prop} (h : o.wp P a w K (Qt P ops Q tl)) : o.wp P a w K Q := by
  unfold Oper.wp at *
  generalize (execOp a.eval o).run P w = r at *
  cases r with
  | ok n w' =>
    cases n <;> simp only [Oper.upon] at h ⊢ <;> exact h
  | halt x w' => cases x <;> simp only [Oper.upon] at h ⊢ <;> exact h
theorem getD_lt {l : Array Bool} {i : Nat} (h : l.getD i true = false) : l.getD i false = false := by
  rw [Array.getD_eq_getD_getElem?] at h ⊢
  cases hh : l[i]? with
  | none => rfl
  | some b => rw [hh] at h; exact h
/-- The tail, one after the other. -/
theorem wpAny_tail {ops : Array Oper} {Q : Exit → Act → World → Prop} {k : Nat} (hB : backB ops = true) (hT : ∀ i, k < i → i < ops.size → waits ops i (i - 1) = true) :
    ∀ (tl : List Oper) (i : Nat) (fuel : Nat) (listed : Array Bool) (a : Act) (w : World), k ≤ i → (∀ j, tl[j]? = ops[i + j]?) → i + tl.length = ops.size → tl.length ≤ fuel → listed.size = ops.size → (∀ j, listed.getD j false = decide (j < i ∧ j < ops.size)) →
      wpList P ops Q tl a w → wpAny P .any ops Q fuel listed a w
  | [], i, fuel, listed, a, w, _, _, hlen, _, hsz, hl, h => by
    have hr : Region.ready .any ops listed = [] := by
      rw [List.eq_nil_iff_forall_not_mem]
      intro j hj
      obtain ⟨h1, o, ho, _⟩ := mem_ready.1 hj
      have hlt : j < ops.size := (Array.getElem?_eq_some_iff.1 ho).1
      have h2 := hl j
      rw [getD_lt h1] at h2
      simp only [List.length_nil] at hlen
      have := (decide_eq_false_iff_not.1 h2.symm)
      omega
    cases fuel with
    | zero => exact ⟨hr, h⟩
    | succ fuel => exact ⟨fun _ => h, fun j hj => by rw [hr] at hj; cases hj⟩
  | o :: tl, i, 0, listed, a, w, _, _, _, hf, _, _, _ => by simp at hf
  | o :: tl, i, fuel + 1, listed, a, w, hk, htl, hlen, hf, hsz, hl, h => by
    have hi : i < ops.size := by simp only [List.length_cons] at hlen; omega
    have h0 : ops[i]? = some o := by simpa using (htl 0).symm
    have hrdy : i ∈ Region.ready .any ops listed := by
      refine mem_ready.2 ⟨?_, o, h0, fun e he hb => ?_⟩
      · have := hl i
        rw [Array.getD_eq_getD_getElem?] at this ⊢
        have hi' : i < listed.size := by omega
        simp only [Array.getElem?_eq_getElem hi', Option.getD_some] at this ⊢
        rw [this]; simp
      · have h3 := List.all_eq_true.1 hB i (by simpa using hi)
        rw [h0] at h3
        simp only [Option.map_some, Option.getD_some, List.all_eq_true, Bool.or_eq_true, Bool.not_eq_true', decide_eq_true_eq] at h3
        rcases h3 e (Array.mem_toList_iff.2 he) with h4 | h4
        · rw [hb] at h4; cases h4
        · rw [hl]; simp; omega
    refine ⟨fun hr => (by rw [hr] at hrdy; cases hrdy), fun j hj => ?_⟩
    obtain ⟨h1, oj, hoj, hd⟩ := mem_ready.1 hj
    have hjlt : j < ops.size := (Array.getElem?_eq_some_iff.1 hoj).1
    have hji : j = i := by
      have h2 := hl j
      rw [getD_lt h1] at h2
      have h3 := (decide_eq_false_iff_not.1 h2.symm)
      by_cases e : j = i
      · exact e
      · exfalso
        have h4 := waits_dep (hT j (by omega) hjlt) hoj hd
        rw [hl] at h4
        simp at h4
        omega
    subst hji
    rw [h0] at hoj
    cases hoj
    have next : ∀ a' w', wpList P ops Q tl a' w' → wpAny P .any ops Q fuel (listed.setIfInBounds j true) a' w' := by
      intro a' w' h'
      refine wpAny_tail hB hT tl (j + 1) fuel _ a' w' (by omega) (fun m => ?_) (by simp only [List.length_cons] at hlen; omega) (by simpa using hf) (by simpa using hsz) (fun m => ?_) h'
      · have := htl (m + 1)
        rw [show j + 1 + m = j + (m + 1) by omega, ← this, List.getElem?_cons_succ]
      · by_cases hm : j = m
        · subst hm
          rw [getD_set_self (by omega)]
          simp; omega
        · rw [getD_set_ne' hm, hl]
          simp only [decide_eq_decide]
          omega
    unfold wpOp
    simp only [h0]
    simp only [wpList] at h
    split
    · rename_i hw
      rw [if_pos hw] at h
      exact h.imp (Oper.wp_mono next) id
    · rename_i hw
      rw [if_neg hw] at h
      exact next _ _ h
/-- First the prefix, in whatever order; then the tail. -/
theorem wpAny_prefix {l1 l2 : List Oper} {Q : Exit → Act → World → Prop} (hT : tailB (l1 ++ l2).toArray l1.length = true) : ∀ (f : Nat) (lk listed : Array Bool) (a : Act) (w : World),
    lk.size = l1.length → listed.size = (l1 ++ l2).length → (∀ j, listed.getD j false = lk.getD j false) →
    (∀ i (o : Oper), l1[i]? = some o → lk.getD i false = true → ∀ e ∈ o.after, Region.binds .any e = true → lk.getD e.on false = true) →
    wpAny P .any l1.toArray (Qt P (l1 ++ l2).toArray Q l2) f lk a w → wpAny P .any (l1 ++ l2).toArray Q (f + l2.length) listed a w := by
  have hT0 := hT
  simp only [tailB, Bool.and_eq_true, decide_eq_true_eq] at hT0
  obtain ⟨⟨⟨hk, hback⟩, hcov⟩, htail⟩ := hT0
  have hbk : ∀ i (o : Oper), (l1 ++ l2)[i]? = some o → (∀ e ∈ o.after, Region.binds .any e = true → e.on < i) ∧ (∀ g b, o.guard = some (g, b) → g < i) := by
    intro i o ho
    have hi : i < (l1 ++ l2).length := (List.getElem?_eq_some_iff.1 ho).1
    have h3 := List.all_eq_true.1 hback i (by simpa using hi)
    have ho' : (l1 ++ l2).toArray[i]? = some o := by simpa using ho
    rw [ho'] at h3
    simp only [Option.map_some, Option.getD_some, Bool.and_eq_true, List.all_eq_true, decide_eq_true_eq, Bool.or_eq_true, Bool.not_eq_true'] at h3
    refine ⟨fun e he hb => (h3.1 e (Array.mem_toList_iff.2 he)).resolve_left (by rw [hb]; decide), fun g b hg => ?_⟩
    have := h3.2
    rw [hg] at this
    simpa using this
  have hB : backB (l1 ++ l2).toArray = true := by
    refine List.all_eq_true.2 fun i hi => ?_
    cases ho : (l1 ++ l2).toArray[i]? with
    | none => rfl
    | some o =>
      simp only [Option.map_some, Option.getD_some, List.all_eq_true]
      intro e he
      cases hb : Region.binds .any e with
      | false => rfl
      | true =>
        have := (hbk i o (by simpa using ho)).1 e (Array.mem_toList_iff.1 he) hb
        simp [this]
  have hTl : ∀ i, l1.length < i → i < (l1 ++ l2).toArray.size → waits (l1 ++ l2).toArray i (i - 1) = true := by
    intro i h1 h2
    have h3 := List.all_eq_true.1 htail i (by simpa using h2)
    simp only [Bool.or_eq_true, decide_eq_true_eq] at h3
    exact h3.resolve_left (by omega)
  -- all of the prefix is listed where nothing of it is ready
  have hall : ∀ lk : Array Bool, lk.size = l1.length → Region.ready .any l1.toArray lk = [] → ∀ i, i < l1.length → lk.getD i false = true := by
    intro lk hsz hr i
    induction i using Nat.strongRecOn with
    | ind i ih =>
      intro hi
      by_cases h : lk.getD i false = true
      · exact h
      · exfalso
        have ho : l1[i]? = some l1[i] := by simp [hi]
        have hm : i ∈ Region.ready .any l1.toArray lk := by
          refine mem_ready.2 ⟨?_, l1[i], by rw [List.getElem?_toArray]; exact ho, fun e he hb => ?_⟩
          · have hi' : i < lk.size := by omega
            rw [Array.getD_eq_getD_getElem?, Array.getElem?_eq_getElem hi', Option.getD_some] at h ⊢
            simpa using h
          · have := (hbk i l1[i] (by rw [List.getElem?_append_left hi]; exact ho)).1 e he hb
            exact ih e.on this (by omega)
        rw [hr] at hm
        cases hm
  have fin : ∀ (lk listed : Array Bool) (a : Act) (w : World) (f : Nat), lk.size = l1.length → listed.size = (l1 ++ l2).length → (∀ j, listed.getD j false = lk.getD j false) → Region.ready .any l1.toArray lk = [] →
      wpList P (l1 ++ l2).toArray Q l2 a w → wpAny P .any (l1 ++ l2).toArray Q (f + l2.length) listed a w := by
    intro lk listed a w f h1 h2 h3 hr h
    refine wpAny_tail hB hTl l2 l1.length _ listed a w (Nat.le_refl _) (fun j => ?_) (by simp) (by omega) (by simpa using h2) (fun j => ?_) h
    · rw [List.getElem?_toArray, List.getElem?_append_right (by omega)]
      congr 1; omega
    · rw [h3]
      by_cases hj : j < l1.length
      · rw [hall lk h1 hr j hj]; simp; omega
      · rw [Array.getD_eq_getD_getElem?, Array.getElem?_eq_none (by omega)]
        simp; omega
  intro f
  induction f with
  | zero =>
    intro lk listed a w h1 h2 h3 _ h
    exact fin lk listed a w 0 h1 h2 h3 h.1 h.2
  | succ f ih =>
    intro lk listed a w h1 h2 h3 hcl h
    by_cases hr : Region.ready .any l1.toArray lk = []
    · exact fin lk listed a w (f + 1) h1 h2 h3 hr (h.1 hr)
    · obtain ⟨m, hm⟩ := List.exists_mem_of_ne_nil _ hr
      have hmr : ∀ j, j ∈ Region.ready .any l1.toArray lk → j < l1.length ∧ lk.getD j false = false := by
        intro j hj
        obtain ⟨g1, o, ho, _⟩ := mem_ready.1 hj
        exact ⟨by simpa using (Array.getElem?_eq_some_iff.1 ho).1, getD_lt g1⟩
      rw [show f + 1 + l2.length = (f + l2.length) + 1 by omega]
      have hin : m ∈ Region.ready .any (l1 ++ l2).toArray listed := by
        obtain ⟨g1, o, ho, hd⟩ := mem_ready.1 hm
        have hlt := (hmr m hm).1
        refine mem_ready.2 ⟨?_, o, ?_, fun e he hb => by rw [h3]; exact hd e he hb⟩
        · have e1 := h3 m
          rw [getD_lt g1] at e1
          have hml : m < listed.size := by rw [h2, List.length_append]; omega
          rw [Array.getD_eq_getD_getElem?, Array.getElem?_eq_getElem hml] at e1 ⊢
          exact e1
        · rw [List.getElem?_toArray] at ho ⊢
          rw [List.getElem?_append_left hlt]; exact ho
      refine ⟨fun hr0 => (by rw [hr0] at hin; cases hin), fun i hi => ?_⟩
      obtain ⟨g1, o, ho, hd⟩ := mem_ready.1 hi
      have hun : lk.getD i false = false := by rw [← h3]; exact getD_lt g1
      have hilt : i < l1.length := by
        by_cases hik : i < l1.length
        · exact hik
        · exfalso
          by_cases hik2 : i = l1.length
          · -- every operation of the prefix is listed
            have : ∀ d j, l1.length - j = d → j < l1.length → lk.getD j false = true := by
              intro d
              induction d using Nat.strongRecOn with
              | ind d ihd =>
                intro j hd' hj
                have h5 := List.all_eq_true.1 hcov j (by simpa using hj)
                obtain ⟨i', hi', h6⟩ := List.any_eq_true.1 h5
                simp only [Bool.and_eq_true, decide_eq_true_eq] at h6
                have hi2 : i' < l1.length + 1 := by simpa using hi'
                rcases Nat.lt_or_ge i' l1.length with h7 | h7
                · have h8 := ihd (l1.length - i') (by omega) i' rfl h7
                  have ho' : l1[i']? = some l1[i'] := by simp [h7]
                  exact waits_dep h6.2 (o := l1[i']) (by rw [List.getElem?_toArray, List.getElem?_append_left h7]; exact ho') (fun e he hb => hcl i' _ ho' h8 e he hb)
                · have e7 : i' = i := by omega
                  subst e7
                  rw [← h3]
                  exact waits_dep h6.2 ho hd
            have := this _ m rfl (hmr m hm).1
            rw [(hmr m hm).2] at this
            cases this
          · have hlt : i < (l1 ++ l2).toArray.size := (Array.getElem?_eq_some_iff.1 ho).1
            have h8 := waits_dep (hTl i (by omega) hlt) ho hd
            rw [h3, Array.getD_eq_getD_getElem?, Array.getElem?_eq_none (by omega)] at h8
            simp at h8
      have ho1 : l1[i]? = some o := by
        rw [List.getElem?_toArray, List.getElem?_append_left hilt] at ho; exact ho
      have hrk : i ∈ Region.ready .any l1.toArray lk := by
        refine mem_ready.2 ⟨?_, o, by simpa using ho1, fun e he hb => by rw [← h3]; exact hd e he hb⟩
        have hil : i < lk.size := by omega
        rw [Array.getD_eq_getD_getElem?, Array.getElem?_eq_getElem hil] at hun ⊢
        exact hun
      have hop := h.2 i hrk
      have next : ∀ a' w', wpAny P .any l1.toArray (Qt P (l1 ++ l2).toArray Q l2) f (lk.setIfInBounds i true) a' w' → wpAny P .any (l1 ++ l2).toArray Q (f + l2.length) (listed.setIfInBounds i true) a' w' := by
        intro a' w' h'
        have hil : i < lk.size := by omega
        have hil2 : i < listed.size := by rw [h2, List.length_append]; omega
        refine ih _ _ a' w' (by simpa using h1) (by simpa using h2) (fun j => ?_) (fun j oj hoj hj e he hb => ?_) h'
        · by_cases hij : i = j
          · subst hij; rw [getD_set_self hil, getD_set_self hil2]
          · rw [getD_set_ne' hij, getD_set_ne' hij]; exact h3 j
        · have hdep : lk.getD e.on false = true := by
            by_cases hij : i = j
            · subst hij
              rw [ho1] at hoj; cases hoj
              rw [← h3]; exact hd e he hb
            · rw [getD_set_ne' hij] at hj
              exact hcl j oj hoj hj e he hb
          by_cases hie : i = e.on
          · rw [← hie]; exact getD_set_self hil _
          · rw [getD_set_ne' hie]; exact hdep
      have hwant : Region.wanted o (yielded l1.toArray a.tmps) = Region.wanted o (yielded (l1 ++ l2).toArray a.tmps) := by
        unfold Region.wanted
        cases hg : o.guard with
        | none => rfl
        | some gb =>
          obtain ⟨g, b⟩ := gb
          have hgi := (hbk i o (by simpa using ho)).2 g b hg
          have : yielded l1.toArray a.tmps g = yielded (l1 ++ l2).toArray a.tmps g := by
            unfold yielded
            rw [List.getElem?_toArray, List.getElem?_toArray, List.getElem?_append_left (by omega)]
          simp only [this]
      unfold wpOp at hop ⊢
      rw [show (l1.toArray)[i]? = some o by simpa using ho1] at hop
      simp only [ho] at hop ⊢
      rw [hwant] at hop
      split
      · rename_i hw
        rw [if_pos hw] at hop
        exact hop.imp (fun h' => Oper.wp_mono next (wp_Qt h')) (fun ⟨h5, a', w', h6⟩ => ⟨h5, a', w', h6⟩)
      · rename_i hw
        rw [if_neg hw] at hop
        exact next _ _ hop
theorem wp_region_split {id : Nat} {l1 l2 : List Oper} {Q : Exit → Act → World → Prop} {a : Act} {w : World} (hm : P.follows .mixedOrders = true) (hT : tailB (l1 ++ l2).toArray l1.length = true)
    (h : wpAny P .any l1.toArray (Qt P (l1 ++ l2).toArray Q l2) l1.length (Array.replicate l1.length false) a w.drew) : (Code.region id (l1 ++ l2).toArray true).wp P Q a w := by
  refine wp_region_any hm ?_
  have := wpAny_prefix (P := P) (Q := Q) hT l1.length (Array.replicate l1.length false) (Array.replicate (l1 ++ l2).length false) a w.drew (by simp) (by simp) (fun j => by
    rw [Array.getD_eq_getD_getElem?, Array.getD_eq_getD_getElem?, Array.getElem?_replicate, Array.getElem?_replicate]
    split <;> split <;> rfl) (fun i o _ hi => by
    rw [Array.getD_eq_getD_getElem?, Array.getElem?_replicate] at hi
    split at hi <;> cases hi) h
  have e : (l1 ++ l2).toArray.size = l1.length + l2.length := by simp
  rw [e]
  have e2 : (l1 ++ l2).length = l1.length + l2.length := by simp
  rw [e2] at this
  exact this
section
variable {w0 w : World} {S : List Nat} {bs : List (Nat × Obj)} {rows : List Row} {a : Act} {Q : Exit → Act → World → Prop}
theorem wp_region_tailQ {id : Nat} {l : List Oper} (k : Nat) (hm : P.follows .mixedOrders = true) (hT : tailB (l.take k ++ l.drop k).toArray (l.take k).length = true) (hB : Region.lexB .any (l.take k).toArray = true) (hH : Holds w0 S bs rows w)
    (h : wpQuiet P (l.take k).toArray (fun w' => Holds w0 S bs rows w') (fun a' => ∀ w', Holds w0 S bs rows w' → wpList P l.toArray Q (l.drop k) a' w') (l.take k) a) : (Code.region id l.toArray true).wp P Q a w := by
  have h1 : (Code.region id (l.take k ++ l.drop k).toArray true).wp P Q a w := by
    refine wp_region_split hm hT ?_
    simp only [Region.lexB, Bool.and_eq_true] at hB
    refine wpAny_of_quiet (C := fun w' => Holds w0 S bs rows w') (Q := fun a' => ∀ w', Holds w0 S bs rows w' → wpList P l.toArray Q (l.drop k) a' w') (fun a' w' hw' h => ?_) _ _ _ _ hH.drew ?_
    · show wpList P (l.take k ++ l.drop k).toArray Q (l.drop k) a' w'
      rw [List.take_append_drop]
      exact h w' hw'
    · have := wpAnyQ_lex (P := P) (C := fun w' => Holds w0 S bs rows w') (md := .any) hB.1 (l.take k) 0 (Array.replicate (l.take k).toArray.size false) a (by simp) (by simpa using hB.2) h
      rw [show (l.take k).toArray.size = (l.take k).length by simp] at this
      exact this
  rwa [List.take_append_drop] at h1
end
end
end Go.Proofs.Ytohdkmgnnncpkaa

/- Words of 32 bits as values: the operations on them; variables of the call's own of several cells. Over any program. No condition. -/
namespace Go.Proofs.Ytohdkmgnnncpkaa
open Go.RowKit
abbrev W32 := BitVec 32
/-- A word as a cell. -/
def wrd (x : W32) : Value := .int .u32 (x.toNat : Int)
@[reducible] def wopF : BinOp → W32 → W32 → W32
  | .xor, x, y => x ^^^ y
  | .and, x, y => x &&& y
  | .or, x, y => x ||| y
  | .add, x, y => x + y
  | _, x, _ => x
section
variable {P : Program}
theorem ex_indexVar {ρ : Operand → Value} {dst : Option Tmp} {ty : TypeId} {pos : String} {after : Array Edge} {guard : Option (Nat × Bool)} {t e : TypeId} {n : Nat} {x i : Operand} {g j m : Nat} {q : Int} {k : IntKind} (ht : P.underlying t = some (.array n e)) (he : (P.info? e).map (·.size) = some 1) (hx : ρ x = .pointer (some ⟨g, j, none⟩))
    (hi : ρ i = .int k q) (hq : q = (m : Int)) (hm : m < n) (w : World) :
    (execOp ρ { dst := dst, op := .indexAddr t x i, type := ty, pos := pos, after := after, guard := guard }).run P w = .ok (.value (.pointer (some ⟨g, j + m, none⟩))) w := by
  subst hq
  have hadd : (⟨g, j, none⟩ : Addr).add m = ⟨g, j + m, none⟩ := by unfold Addr.add; split <;> simp_all
  have hc : (0 : Int) ≤ (m : Int) ∧ (m : Int) < n := by omega
  simp only [execOp, hx, hi, Instr.indexAt, asIntOf, Sem.run_bind, Sem.run_pure, Result.andThen_ok, run_underlying ht, Instr.sureAddr, run_sizeOf he, hc, and_self, if_true, Int.toNat_natCast, Nat.mul_one, hadd]
section
variable {ops : Array Oper} {rest : List Oper} {a : Act} {dst : Option Tmp} {ty : TypeId} {pos : String} {after : Array Edge} {guard : Option (Nat × Bool)} {C : World → Prop} {K : Act → Prop} {w : World} {Q : Exit → Act → World → Prop}
theorem wpL_indexVar {t e : TypeId} {n : Nat} {x i : Operand} {g j m : Nat} {q : Int} {k : IntKind} (ht : P.underlying t = some (.array n e)) (he : (P.info? e).map (·.size) = some 1) (hx : a.eval x = .pointer (some ⟨g, j, none⟩)) (hi : a.eval i = .int k q) (hq : q = (m : Int)) (hm : m < n)
    (hg : Region.wanted { dst := dst, op := .indexAddr t x i, type := ty, pos := pos, after := after, guard := guard } (yielded ops a.tmps) = true)
    (h : wpList P ops Q rest (a.put dst (.pointer (some ⟨g, j + m, none⟩))) w) : wpList P ops Q ({ dst := dst, op := .indexAddr t x i, type := ty, pos := pos, after := after, guard := guard } :: rest) a w :=
  wpList_ex hg (ex_indexVar (ρ := a.eval) ht he hx hi hq hm w) h
end
end
section
variable {P : Program} {ops : Array Oper} {rest : List Oper} {a : Act} {dst : Option Tmp} {ty : TypeId} {pos : String} {after : Array Edge} {guard : Option (Nat × Bool)} {w : World} {Q : Exit → Act → World → Prop}
theorem wpL_skip {o : Oper} (hg : Region.wanted o (yielded ops a.tmps) = false) (h : wpList P ops Q rest (a.put o.dst undef) w) : wpList P ops Q (o :: rest) a w :=
  wpList_step fun K hK => by rw [if_neg (by rw [hg]; exact Bool.false_ne_true)]; exact hK _ _ h
theorem wpL_move {x : Operand} {v : Value} (hx : a.eval x = v)
    (hg : Region.wanted { dst := dst, op := .move x, type := ty, pos := pos, after := after, guard := guard } (yielded ops a.tmps) = true)
    (h : wpList P ops Q rest (a.put dst (v)) w) : wpList P ops Q ({ dst := dst, op := .move x, type := ty, pos := pos, after := after, guard := guard } :: rest) a w :=
  wpList_ex hg (ex_move (ρ := a.eval) hx w) h
theorem wpL_assign {x : Operand} {v : Value} (hx : a.eval x = v)
    (hg : Region.wanted { dst := dst, op := .assign x, type := ty, pos := pos, after := after, guard := guard } (yielded ops a.tmps) = true)
    (h : wpList P ops Q rest (a.put dst (v)) w) : wpList P ops Q ({ dst := dst, op := .assign x, type := ty, pos := pos, after := after, guard := guard } :: rest) a w :=
  wpList_ex hg (ex_assign (ρ := a.eval) hx w) h
theorem wpL_not {t : TypeId} {x : Operand} {b : Bool} (hx : a.eval x = .bool b)
    (hg : Region.wanted { dst := dst, op := .unOp .not t x, type := ty, pos := pos, after := after, guard := guard } (yielded ops a.tmps) = true)
    (h : wpList P ops Q rest (a.put dst (.bool !b)) w) : wpList P ops Q ({ dst := dst, op := .unOp .not t x, type := ty, pos := pos, after := after, guard := guard } :: rest) a w :=
  wpList_ex hg (ex_not (ρ := a.eval) hx w) h
theorem wpL_cmp {op : BinOp} {t yt : TypeId} {x y : Operand} {k : IntKind} {p q : Int} {b : Bool} (ho : isCmp op = true) (hx : a.eval x = .int k p) (hy : a.eval y = .int k q) (hb : cmpB op p q = b)
    (hg : Region.wanted { dst := dst, op := .binOp op t x y yt, type := ty, pos := pos, after := after, guard := guard } (yielded ops a.tmps) = true)
    (h : wpList P ops Q rest (a.put dst (.bool b)) w) : wpList P ops Q ({ dst := dst, op := .binOp op t x y yt, type := ty, pos := pos, after := after, guard := guard } :: rest) a w :=
  wpList_ex hg (ex_cmp (ρ := a.eval) ho hx hy hb w) h
theorem wpL_arith {op : BinOp} {t yt : TypeId} {x y : Operand} {k : IntKind} {p q r : Int} (ho : isArith op = true) (hx : a.eval x = .int k p) (hy : a.eval y = .int k q) (hr : k.wrap (arithI op p q) = r)
    (hg : Region.wanted { dst := dst, op := .binOp op t x y yt, type := ty, pos := pos, after := after, guard := guard } (yielded ops a.tmps) = true)
    (h : wpList P ops Q rest (a.put dst (.int k r)) w) : wpList P ops Q ({ dst := dst, op := .binOp op t x y yt, type := ty, pos := pos, after := after, guard := guard } :: rest) a w :=
  wpList_ex hg (ex_arith (ρ := a.eval) ho hx hy hr w) h
theorem wpL_len {t : TypeId} {e : TypeId} (ht : P.underlying t = some (.slice e)) {x : Operand} {ao : Option Addr} {n c : Nat} (hx : a.eval x = .slice ao n c)
    (hg : Region.wanted { dst := dst, op := .call { callee := .builtin .len, args := #[x], argTypes := #[t] }, type := ty, pos := pos, after := after, guard := guard } (yielded ops a.tmps) = true)
    (h : wpList P ops Q rest (a.put dst (.int .i64 n)) w) : wpList P ops Q ({ dst := dst, op := .call { callee := .builtin .len, args := #[x], argTypes := #[t] }, type := ty, pos := pos, after := after, guard := guard } :: rest) a w :=
  wpList_ex hg (ex_len (ρ := a.eval) ht hx w) h
theorem wpL_pick {c x y : Operand} {b : Bool} {v : Value} (hc : a.eval c = .bool b) (hv : (if b then a.eval x else a.eval y) = v) (hg : Region.wanted { dst := dst, op := .pick c x y, type := ty, pos := pos, after := after, guard := guard } (yielded ops a.tmps) = true)
    (h : wpList P ops Q rest (a.put dst v) w) : wpList P ops Q ({ dst := dst, op := .pick c x y, type := ty, pos := pos, after := after, guard := guard } :: rest) a w :=
  wpList_ex hg (by simp only [execOp, hc, asBool, Sem.run_bind, Sem.run_pure, Result.andThen_ok, hv]) h
end
end Go.Proofs.Ytohdkmgnnncpkaa

/- Variables of the call's own that hold several cells: read and written, whole or in part. Over any program. No condition. -/
namespace Go.Proofs.Ytohdkmgnnncpkaa
open Go.RowKit
/-- A variable that holds these cells. -/
def objC (cs : List Value) (e : TypeId) : Obj := .cells cs.toArray e
section
variable {P : Program} {w0 w : World} {S : List Nat} {bs bs' : List (Nat × Obj)} {rows : List Row} {ops : Array Oper} {rest : List Oper} {a : Act} {Q : Exit → Act → World → Prop} {K : Act → Prop} {dst : Option Tmp} {ty : TypeId} {pos : String} {after : Array Edge} {guard : Option (Nat × Bool)}
theorem wpL_allocC {zs : List Value} {e : TypeId} (hz : (P.info? e).map (·.zero) = some (some (.agg zs.toArray))) (hH : Holds w0 S bs rows w)
    (hg : Region.wanted { dst := dst, op := .alloc e, type := ty, pos := pos, after := after, guard := guard } (yielded ops a.tmps) = true)
    (h : ∀ g w', Holds w0 S ((g, objC zs e) :: bs) rows w' → wpList P ops Q rest (a.put dst (.pointer (some ⟨g, 0, none⟩))) w') :
    wpList P ops Q ({ dst := dst, op := .alloc e, type := ty, pos := pos, after := after, guard := guard } :: rest) a w := wpList_alloc hz hH hg h
theorem wpL_alloc1 {z : Value} {e : TypeId} (hz : (P.info? e).map (·.zero) = some (some z)) (h1 : z.cells = #[z]) (hH : Holds w0 S bs rows w)
    (hg : Region.wanted { dst := dst, op := .alloc e, type := ty, pos := pos, after := after, guard := guard } (yielded ops a.tmps) = true)
    (h : ∀ g w', Holds w0 S ((g, objC [z] e) :: bs) rows w' → wpList P ops Q rest (a.put dst (.pointer (some ⟨g, 0, none⟩))) w') :
    wpList P ops Q ({ dst := dst, op := .alloc e, type := ty, pos := pos, after := after, guard := guard } :: rest) a w := by
  refine wpList_alloc hz hH hg fun g w' h' => h g w' ?_
  rw [h1] at h'
  exact h'
theorem wpL_boxC {cs : List Value} {e : TypeId} {x : Operand} (hx : a.eval x = .agg cs.toArray) (hH : Holds w0 S bs rows w)
    (hg : Region.wanted { dst := dst, op := .box e x, type := ty, pos := pos, after := after, guard := guard } (yielded ops a.tmps) = true)
    (h : ∀ g w', Holds w0 S ((g, objC cs e) :: bs) rows w' → wpList P ops Q rest (a.put dst (.pointer (some ⟨g, 0, none⟩))) w') :
    wpList P ops Q ({ dst := dst, op := .box e x, type := ty, pos := pos, after := after, guard := guard } :: rest) a w := wpList_box hx hH hg h
theorem wpL_box1 {v : Value} {e : TypeId} {x : Operand} (hx : a.eval x = v) (h1 : v.cells = #[v]) (hH : Holds w0 S bs rows w)
    (hg : Region.wanted { dst := dst, op := .box e x, type := ty, pos := pos, after := after, guard := guard } (yielded ops a.tmps) = true)
    (h : ∀ g w', Holds w0 S ((g, objC [v] e) :: bs) rows w' → wpList P ops Q rest (a.put dst (.pointer (some ⟨g, 0, none⟩))) w') :
    wpList P ops Q ({ dst := dst, op := .box e x, type := ty, pos := pos, after := after, guard := guard } :: rest) a w := by
  refine wpList_box hx hH hg fun g w' h' => h g w' ?_
  rw [h1] at h'
  exact h'
theorem ex_loadPart {ρ : Operand → Value} {t : TypeId} {n : Nat} (hA : AggT P t n) (hH : Holds w0 S bs rows w) {x : Operand} {g j : Nat} {cs vs : List Value} {e : TypeId}
    (hx : ρ x = .pointer (some ⟨g, j, none⟩)) (ho : Own bs g (objC cs e)) (hv : (cs.drop j).take n = vs) (hl : vs.length = n) :
    (execOp ρ { dst := dst, op := .load t x, type := ty, pos := pos, after := after, guard := guard }).run P w = .ok (.value (.agg vs.toArray)) w := by
  obtain ⟨d, hu, hd, hi⟩ := hA
  refine ex_load_agg hx hu hd hi hl (fun i u hu' => ?_)
  have hadd : (⟨g, j, none⟩ : Addr).add i = ⟨g, j + i, none⟩ := by unfold Addr.add; split <;> simp_all
  have hi' : i < n := by rw [← hl]; exact (List.getElem?_eq_some_iff.1 hu').1
  rw [hadd, cell_own hH ho (j + i), List.getElem?_toArray]
  rw [← hv, List.getElem?_take, if_pos hi', List.getElem?_drop] at hu'
  exact hu'
theorem wpL_loadPart {t : TypeId} {n : Nat} (hA : AggT P t n) (hH : Holds w0 S bs rows w) {x : Operand} {g j : Nat} {cs vs : List Value} {e : TypeId}
    (hx : a.eval x = .pointer (some ⟨g, j, none⟩)) (ho : Own bs g (objC cs e)) (hv : (cs.drop j).take n = vs) (hl : vs.length = n)
    (hg : Region.wanted { dst := dst, op := .load t x, type := ty, pos := pos, after := after, guard := guard } (yielded ops a.tmps) = true)
    (h : wpList P ops Q rest (a.put dst (.agg vs.toArray)) w) : wpList P ops Q ({ dst := dst, op := .load t x, type := ty, pos := pos, after := after, guard := guard } :: rest) a w :=
  wpList_ex hg (ex_loadPart hA hH hx ho hv hl) h
theorem wpQ_loadPart {t : TypeId} {n : Nat} (hA : AggT P t n) {x : Operand} {g j : Nat} {cs vs : List Value} {e : TypeId}
    (hx : a.eval x = .pointer (some ⟨g, j, none⟩)) (ho : Own bs g (objC cs e)) (hv : (cs.drop j).take n = vs) (hl : vs.length = n)
    (hg : Region.wanted { dst := dst, op := .load t x, type := ty, pos := pos, after := after, guard := guard } (yielded ops a.tmps) = true)
    (h : wpQuiet P ops (fun w' => Holds w0 S bs rows w') K rest (a.put dst (.agg vs.toArray))) : wpQuiet P ops (fun w' => Holds w0 S bs rows w') K ({ dst := dst, op := .load t x, type := ty, pos := pos, after := after, guard := guard } :: rest) a :=
  wpQuiet_ex hg (fun w hw => ex_loadPart hA hw hx ho hv hl) h
/-- A whole variable. -/
theorem wpL_loadC {t : TypeId} {n : Nat} (hA : AggT P t n) (hH : Holds w0 S bs rows w) {x : Operand} {g : Nat} {cs : List Value} {e : TypeId}
    (hx : a.eval x = .pointer (some ⟨g, 0, none⟩)) (ho : Own bs g (objC cs e)) (hl : cs.length = n)
    (hg : Region.wanted { dst := dst, op := .load t x, type := ty, pos := pos, after := after, guard := guard } (yielded ops a.tmps) = true)
    (h : wpList P ops Q rest (a.put dst (.agg cs.toArray)) w) : wpList P ops Q ({ dst := dst, op := .load t x, type := ty, pos := pos, after := after, guard := guard } :: rest) a w :=
  wpL_loadPart hA hH hx ho (by rw [List.drop_zero, ← hl, List.take_length]) hl hg h
theorem wpQ_loadC {t : TypeId} {n : Nat} (hA : AggT P t n) {x : Operand} {g : Nat} {cs : List Value} {e : TypeId}
    (hx : a.eval x = .pointer (some ⟨g, 0, none⟩)) (ho : Own bs g (objC cs e)) (hl : cs.length = n)
    (hg : Region.wanted { dst := dst, op := .load t x, type := ty, pos := pos, after := after, guard := guard } (yielded ops a.tmps) = true)
    (h : wpQuiet P ops (fun w' => Holds w0 S bs rows w') K rest (a.put dst (.agg cs.toArray))) : wpQuiet P ops (fun w' => Holds w0 S bs rows w') K ({ dst := dst, op := .load t x, type := ty, pos := pos, after := after, guard := guard } :: rest) a :=
  wpQ_loadPart hA hx ho (by rw [List.drop_zero, ← hl, List.take_length]) hl hg h
theorem ex_load1 {ρ : Operand → Value} {t : TypeId} (hA : OneT P t) (hH : Holds w0 S bs rows w) {x : Operand} {g j : Nat} {cs : List Value} {v : Value} {e : TypeId}
    (hx : ρ x = .pointer (some ⟨g, j, none⟩)) (ho : Own bs g (objC cs e)) (hv : cs[j]? = some v) :
    (execOp ρ { dst := dst, op := .load t x, type := ty, pos := pos, after := after, guard := guard }).run P w = .ok (.value v) w := by
  obtain ⟨d, hu, hd⟩ := hA
  exact ex_load_one hx hu hd ((cell_own hH ho j).trans (by rw [List.getElem?_toArray]; exact hv))
theorem wpL_load1 {t : TypeId} (hA : OneT P t) (hH : Holds w0 S bs rows w) {x : Operand} {g j : Nat} {cs : List Value} {v : Value} {e : TypeId}
    (hx : a.eval x = .pointer (some ⟨g, j, none⟩)) (ho : Own bs g (objC cs e)) (hv : cs[j]? = some v)
    (hg : Region.wanted { dst := dst, op := .load t x, type := ty, pos := pos, after := after, guard := guard } (yielded ops a.tmps) = true)
    (h : wpList P ops Q rest (a.put dst v) w) : wpList P ops Q ({ dst := dst, op := .load t x, type := ty, pos := pos, after := after, guard := guard } :: rest) a w :=
  wpList_ex hg (ex_load1 hA hH hx ho hv) h
theorem wpQ_load1 {t : TypeId} (hA : OneT P t) {x : Operand} {g j : Nat} {cs : List Value} {v : Value} {e : TypeId}
    (hx : a.eval x = .pointer (some ⟨g, j, none⟩)) (ho : Own bs g (objC cs e)) (hv : cs[j]? = some v)
    (hg : Region.wanted { dst := dst, op := .load t x, type := ty, pos := pos, after := after, guard := guard } (yielded ops a.tmps) = true)
    (h : wpQuiet P ops (fun w' => Holds w0 S bs rows w') K rest (a.put dst v)) : wpQuiet P ops (fun w' => Holds w0 S bs rows w') K ({ dst := dst, op := .load t x, type := ty, pos := pos, after := after, guard := guard } :: rest) a :=
  wpQuiet_ex hg (fun w hw => ex_load1 hA hw hx ho hv) h
/-- A part is written. -/
theorem wpL_storePart {t : TypeId} {x y : Operand} {g j : Nat} {vs cs : List Value} {sz : Nat} {v : Value} {e : TypeId}
    (hx : a.eval x = .pointer (some ⟨g, j, none⟩)) (hy : a.eval y = v) (hvs : v.cells.toList = vs) (hi : (P.info? t).map (·.size) = some sz)
    (hH : Holds w0 S bs rows w) (ht : Turn bs g (objC cs e) (objC (cs.take j ++ vs ++ cs.drop (j + sz)) e) bs') (hv : vs.length = sz) (h1 : ∀ u ∈ vs, u.oneCell' = true) (hc : j + sz ≤ cs.length)
    (hg : Region.wanted { dst := dst, op := .store t x y, type := ty, pos := pos, after := after, guard := guard } (yielded ops a.tmps) = true)
    (h : ∀ w', Holds w0 S bs' rows w' → wpList P ops Q rest (a.put dst undef) w') :
    wpList P ops Q ({ dst := dst, op := .store t x y, type := ty, pos := pos, after := after, guard := guard } :: rest) a w := by
  subst hvs
  have hblk : w.heap[g]? = some (.cells cs.toArray e (0, 0)) := hH.at ht.own
  refine wpList_exskip hg (w' := w.setRow g (cs.take j ++ v.cells.toList ++ cs.drop (j + sz)).toArray) ?_ (h _ (hH.turn ht (setRow_heap w g cs.toArray _ e (0, 0) hblk) rfl rfl rfl (by simp) fun k _ hk => setRow_other w g k _ hk))
  have hs := run_storeCells_at P g j e v.cells.toList 0 cs.toArray w hblk (by simp at hv ⊢; omega) h1
  simp only [Nat.add_zero, hv] at hs
  have hvz : v.cells.size = sz := by simpa using hv
  simp only [execOp, hx, hy, Instr.storeAt, Instr.sureAddr, storeVar, Sem.run_bind, Sem.run_pure, Result.andThen_ok, run_sizeOf hi, hvz, ne_eq, not_true_eq_false, if_false, hs]
/-- One cell is written. -/
theorem wpL_store1 {t : TypeId} {x y : Operand} {g j : Nat} {cs : List Value} {v : Value} {e : TypeId}
    (hx : a.eval x = .pointer (some ⟨g, j, none⟩)) (hy : a.eval y = v) (hvs : v.cells = #[v]) (hi : (P.info? t).map (·.size) = some 1)
    (hH : Holds w0 S bs rows w) (ht : Turn bs g (objC cs e) (objC (cs.set j v) e) bs') (h1 : v.oneCell' = true) (hc : j < cs.length)
    (hg : Region.wanted { dst := dst, op := .store t x y, type := ty, pos := pos, after := after, guard := guard } (yielded ops a.tmps) = true)
    (h : ∀ w', Holds w0 S bs' rows w' → wpList P ops Q rest (a.put dst undef) w') :
    wpList P ops Q ({ dst := dst, op := .store t x y, type := ty, pos := pos, after := after, guard := guard } :: rest) a w := by
  refine wpL_storePart (e := e) (cs := cs) (vs := [v]) hx hy (by rw [hvs]) hi hH ?_ rfl (by simpa using h1) (by omega) hg h
  rw [List.set_eq_take_append_cons_drop, if_pos hc] at ht
  simpa using ht
/-- A whole variable is written. -/
theorem wpL_storeC {t : TypeId} {x y : Operand} {g : Nat} {vs cs : List Value} {sz : Nat} {e : TypeId}
    (hx : a.eval x = .pointer (some ⟨g, 0, none⟩)) (hy : a.eval y = .agg vs.toArray) (hi : (P.info? t).map (·.size) = some sz)
    (hH : Holds w0 S bs rows w) (ht : Turn bs g (objC cs e) (objC vs e) bs') (hv : vs.length = sz) (h1 : ∀ u ∈ vs, u.oneCell' = true) (hc : cs.length = sz)
    (hg : Region.wanted { dst := dst, op := .store t x y, type := ty, pos := pos, after := after, guard := guard } (yielded ops a.tmps) = true)
    (h : ∀ w', Holds w0 S bs' rows w' → wpList P ops Q rest (a.put dst undef) w') :
    wpList P ops Q ({ dst := dst, op := .store t x y, type := ty, pos := pos, after := after, guard := guard } :: rest) a w := by
  refine wpL_storePart (e := e) (cs := cs) (vs := vs) hx hy (by simp [Value.cells]) hi hH ?_ hv h1 (by omega) hg h
  have : cs.take 0 ++ vs ++ cs.drop (0 + sz) = vs := by rw [List.drop_eq_nil_of_le (by omega)]; simp
  rw [this]
  exact ht
theorem resC {tmps : Array Value} {n : Nat} {t e : TypeId} (hA : AggT P t n) {r : Tmp} {g : Nat} {cs : List Value} (hH : Holds w0 S bs rows w) (ht : tmps.getD r undef = .pointer (some ⟨g, 0, none⟩)) (ho : Own bs g (objC cs e)) (hl : cs.length = n) : ResAt P w tmps (.cell r t) (.agg cs.toArray) := by
  obtain ⟨d, hu, hd, hi⟩ := hA
  refine ⟨_, ht, ?_⟩
  refine run_loadVar_agg hu hd hi hl fun j u hu' => ?_
  have hadd : (⟨g, 0, none⟩ : Addr).add j = ⟨g, j, none⟩ := by unfold Addr.add; split <;> simp_all
  rw [hadd, cell_own hH ho j, List.getElem?_toArray]
  exact hu'
end
theorem wrd_one (l : List W32) : ∀ u ∈ l.map wrd, u.oneCell' = true := by
  intro u hu; obtain ⟨x, _, rfl⟩ := List.mem_map.1 hu; rfl
end Go.Proofs.Ytohdkmgnnncpkaa

/- What the table of types says of the types that the code uses. No condition. -/
namespace Go.Proofs.Ytohdkmgnnncpkaa
open Go.RowKit
section
variable {P : Program} {w0 w : World} {S : List Nat} {bs : List (Nat × Obj)} {rows : List Row} {ops : Array Oper} {rest : List Oper} {a : Act} {Q : Exit → Act → World → Prop} {K : Act → Prop} {dst : Option Tmp} {ty : TypeId} {pos : String} {after : Array Edge} {guard : Option (Nat × Bool)}
/-- A variable that holds an array of bytes is read whole. -/
theorem wpL_loadArr {t : TypeId} {n : Nat} {v : Arr n} (hA : AggT P t n) (hH : Holds w0 S bs rows w) {x : Operand} {g : Nat} {e : TypeId} (hx : a.eval x = .pointer (some ⟨g, 0, none⟩)) (ho : Own bs g (objC v.cells e))
    (hg : Region.wanted { dst := dst, op := .load t x, type := ty, pos := pos, after := after, guard := guard } (yielded ops a.tmps) = true)
    (h : wpList P ops Q rest (a.put dst v.val) w) : wpList P ops Q ({ dst := dst, op := .load t x, type := ty, pos := pos, after := after, guard := guard } :: rest) a w :=
  wpL_loadC hA hH hx ho (Arr.len v) hg h
theorem wpQ_loadArr {t : TypeId} {n : Nat} {v : Arr n} (hA : AggT P t n) {x : Operand} {g : Nat} {e : TypeId} (hx : a.eval x = .pointer (some ⟨g, 0, none⟩)) (ho : Own bs g (objC v.cells e))
    (hg : Region.wanted { dst := dst, op := .load t x, type := ty, pos := pos, after := after, guard := guard } (yielded ops a.tmps) = true)
    (h : wpQuiet P ops (fun w' => Holds w0 S bs rows w') K rest (a.put dst v.val)) : wpQuiet P ops (fun w' => Holds w0 S bs rows w') K ({ dst := dst, op := .load t x, type := ty, pos := pos, after := after, guard := guard } :: rest) a :=
  wpQ_loadC hA hx ho (Arr.len v) hg h
/-- An array of bytes that lies somewhere is read. -/
theorem wpL_loadEl {t : TypeId} {n : Nat} {v : Arr n} {ad : Addr} (hA : AggT P t n) (hc : ∀ j u, v.cells[j]? = some u → w.cell? (ad.add j) = some u) {x : Operand} (hx : a.eval x = .pointer (some ad))
    (hg : Region.wanted { dst := dst, op := .load t x, type := ty, pos := pos, after := after, guard := guard } (yielded ops a.tmps) = true)
    (h : wpList P ops Q rest (a.put dst v.val) w) : wpList P ops Q ({ dst := dst, op := .load t x, type := ty, pos := pos, after := after, guard := guard } :: rest) a w :=
  wpList_load_agg hA (Arr.len v) hc hx hg h
theorem wpQ_loadEl {C : World → Prop} {t : TypeId} {n : Nat} {v : Arr n} {ad : Addr} (hA : AggT P t n) (hc : ∀ w, C w → ∀ j u, v.cells[j]? = some u → w.cell? (ad.add j) = some u) {x : Operand} (hx : a.eval x = .pointer (some ad))
    (hg : Region.wanted { dst := dst, op := .load t x, type := ty, pos := pos, after := after, guard := guard } (yielded ops a.tmps) = true)
    (h : wpQuiet P ops C K rest (a.put dst v.val)) : wpQuiet P ops C K ({ dst := dst, op := .load t x, type := ty, pos := pos, after := after, guard := guard } :: rest) a :=
  wpQ_load_agg hA (Arr.len v) hc hx hg h
theorem wpL_boxArr {n : Nat} {v : Arr n} {e : TypeId} {x : Operand} (hx : a.eval x = v.val) (hH : Holds w0 S bs rows w)
    (hg : Region.wanted { dst := dst, op := .box e x, type := ty, pos := pos, after := after, guard := guard } (yielded ops a.tmps) = true)
    (h : ∀ g w', Holds w0 S ((g, objC v.cells e) :: bs) rows w' → wpList P ops Q rest (a.put dst (.pointer (some ⟨g, 0, none⟩))) w') :
    wpList P ops Q ({ dst := dst, op := .box e x, type := ty, pos := pos, after := after, guard := guard } :: rest) a w := wpL_boxC (cs := v.cells) hx hH hg h
theorem wpL_storeArr {t : TypeId} {n : Nat} {v : Arr n} {x y : Operand} {g : Nat} {cs : List Value} {e : TypeId} {bs' : List (Nat × Obj)} (hi : (P.info? t).map (·.size) = some n)
    (hH : Holds w0 S bs rows w) (hx : a.eval x = .pointer (some ⟨g, 0, none⟩)) (hy : a.eval y = v.val) (ht : Turn bs g (objC cs e) (objC v.cells e) bs') (hc : cs.length = n)
    (hg : Region.wanted { dst := dst, op := .store t x y, type := ty, pos := pos, after := after, guard := guard } (yielded ops a.tmps) = true)
    (h : ∀ w', Holds w0 S bs' rows w' → wpList P ops Q rest (a.put dst undef) w') :
    wpList P ops Q ({ dst := dst, op := .store t x y, type := ty, pos := pos, after := after, guard := guard } :: rest) a w :=
  wpL_storeC hx hy hi hH ht (Arr.len v) (cells_one v) hc hg h
end
theorem kO3 : OneT Try.prog 3 := ⟨_, Try.underlying3, rfl⟩
theorem kS3 : (Try.prog.info? 3).map (·.size) = some 1 := by kernel_rfl
theorem kZ3 : (Try.prog.info? 3).map (·.zero) = some (some (.int .i64 0)) := by kernel_rfl
theorem kS4 : (Try.prog.info? 4).map (·.size) = some 1 := by kernel_rfl
theorem kZ4 : (Try.prog.info? 4).map (·.zero) = some (some (.bool false)) := by kernel_rfl
theorem kO5 : OneT Try.prog 5 := ⟨_, Try.underlying5, rfl⟩
theorem kO22 : OneT Try.prog 22 := ⟨_, Try.underlying22, rfl⟩
theorem kO24 : OneT Try.prog 24 := ⟨_, Try.underlying24, rfl⟩
theorem kS24 : (Try.prog.info? 24).map (·.size) = some 1 := by kernel_rfl
theorem kZ24 : (Try.prog.info? 24).map (·.zero) = some (some (.slice none 0 0)) := by kernel_rfl
theorem kA33 : AggT Try.prog 33 32 := ⟨_, Try.underlying33, rfl, by kernel_rfl⟩
theorem kS33 : (Try.prog.info? 33).map (·.size) = some 32 := by kernel_rfl
theorem kZ33 : (Try.prog.info? 33).map (·.zero) = some (some (.agg ((Arr.zero 32).cells : List Value).toArray)) := by kernel_rfl
theorem kO37 : OneT Try.prog 37 := ⟨_, Try.underlying37, rfl⟩
theorem kR33 : ArrT Try.prog 33 32 := ⟨_, _, Try.underlying33, Try.underlying5, by kernel_rfl, by kernel_rfl⟩
theorem kE22 : Elem Try.prog 22 38 32 32 := Elem.mk' (.agg (List.replicate 32 (byt 0 : Value) : List Value).toArray) Try.underlying22 (by kernel_rfl) (by kernel_rfl) (by omega) (by omega)
theorem kE24 : Elem Try.prog 24 33 32 32 := Elem.mk' (.agg (List.replicate 32 (byt 0 : Value) : List Value).toArray) Try.underlying24 (by kernel_rfl) (by kernel_rfl) (by omega) (by omega)
theorem kB17 : Body Try.prog 17 := ⟨_, _, Try.func17, rfl, rfl⟩
theorem kB31 : Body Try.prog 31 := ⟨_, _, Try.func31, rfl, rfl⟩
end Go.Proofs.Ytohdkmgnnncpkaa

/- Rows of arrays: lists of nodes, of identities. No condition. -/
namespace Go.Proofs.Ytohdkmgnnncpkaa
open Go.RowKit
/-- A row of arrays of the call's own. -/
@[reducible] def rowA {n : Nat} (e : TypeId) (ao : Option Addr) (cap : Nat) (l : List (Arr n)) : Row := ⟨.slice ao l.length cap, e, n, l.length, flat l⟩
/-- A slice of arrays that is read. -/
abbrev Arrs {n : Nat} (w : World) (v : Value) (l : List (Arr n)) : Prop := Sl w v n l.length (flat l)
theorem Arrs.of {m : Nat} {w : World} {v : Value} {n : Nat} {l : List (Arr m)} {cs : List Value} (h : Sl w v m n cs) (hn : n = l.length) (hc : cs = flat l) : Arrs w v l := by subst hn hc; exact h
theorem Arrs.get {n : Nat} {w : World} {a : Addr} {cap : Nat} {l : List (Arr n)} (h : Arrs w (.slice (some a) l.length cap) l) (k : Nat) (hk : k < l.length) : ∀ j u, (l[k]).cells[j]? = some u → w.cell? ((a.add (k * n)).add j) = some u := by
  intro j u hu
  have hj : j < n := by
    have := (List.getElem?_eq_some_iff.1 hu).1
    rwa [Arr.len] at this
  have h1 := h.cell (k * n + j) u (by rw [flat_get l k hk j hj]; exact hu)
  have e : (a.add (k * n)).add j = a.add (k * n + j) := by
    unfold Addr.add; split <;> split <;> simp_all <;> omega
  rw [e]; exact h1
theorem Arrs.take {m : Nat} {w : World} {ao : Option Addr} {cap : Nat} {l : List (Arr m)} {j : Nat} (h : Arrs w (.slice ao l.length cap) l) (hj : j ≤ l.length) : Arrs w (.slice ao j cap) (l.take j) := by
  have h1 := Sl.take h hj
  exact Arrs.of h1 (by rw [List.length_take]; omega) (flat_take l j)
section
variable {P : Program} {w w0 : World} {S : List Nat} {bs : List (Nat × Obj)} {rows : List Row} {ops : Array Oper} {rest : List Oper} {a : Act} {dst : Option Tmp} {ty : TypeId} {pos : String} {after : Array Edge} {guard : Option (Nat × Bool)} {Q : Exit → Act → World → Prop}
end
end Go.Proofs.Ytohdkmgnnncpkaa

/- A region that draws its order and that writes the call's own variables: what is held hangs on what is listed and on the slots. Over any program; no condition. -/
namespace Go.Proofs.Ytohdkmgnnncpkaa
open Go.RowKit
/-- One more is listed. -/
def upd (l : Nat → Bool) (i : Nat) : Nat → Bool := fun j => if j = i then true else l j
/-- A slot is written. -/
def updS (s : Nat → Value) (d : Nat) (v : Value) : Nat → Value := fun t => if t = d then v else s t
def stepS (o : Oper) (s : Nat → Value) (v : Value) : Nat → Value := match o.dst with | some d => updS s d v | none => s
/-- The slots. -/
def slF (a : Act) : Nat → Value := fun t => a.tmps.getD t undef
theorem slF_put {a : Act} {o : Oper} {v : Value} (h : ∀ d, o.dst = some d → d < a.tmps.size) : slF (a.put o.dst v) = stepS o (slF a) v := by
  funext t
  unfold slF stepS
  cases hd : o.dst with
  | none => rfl
  | some d =>
    simp only [updS]
    by_cases ht : t = d
    · subst ht; rw [if_pos rfl]; exact getD_put_self (h _ hd)
    · rw [if_neg ht]; exact getD_put_ne (Ne.symm ht)
def lsF (li : Array Bool) : Nat → Bool := fun i => li.getD i true
theorem lsF_set {li : Array Bool} {i : Nat} (h : i < li.size) : lsF (li.setIfInBounds i true) = upd (lsF li) i := by
  funext j
  unfold lsF upd
  by_cases hj : j = i
  · subst hj; rw [if_pos rfl]; exact getD_set_self h true
  · rw [if_neg hj]; exact getD_set_ne' (Ne.symm hj) true
/-- What is listed is closed under the edges that bind. -/
def closedF (ops : Array Oper) (l : Nat → Bool) : Prop := ∀ i o, ops[i]? = some o → l i = true → ∀ e ∈ o.after, Region.binds .any e = true → l e.on = true
def SatF (ops : Array Oper) (V : Nat → Value → Prop) (a : Act) (i : Nat) : Prop := ∀ o, ops[i]? = some o → V i (match o.dst with | some d => a.tmps.getD d undef | none => undef)
section
variable {P : Program} {w0 w : World} {S : List Nat} {a0 : Act} {Q : Exit → Act → World → Prop} {ops : Array Oper}
structure InvF (ops : Array Oper) (a0 : Act) (J : (Nat → Bool) → (Nat → Value) → World → Prop) (V : Nat → Value → Prop) (li : Array Bool) (a : Act) (w : World) : Prop where
  inv : J (lsF li) (slF a) w
  cl : closedF ops (lsF li)
  def_ : a.defers = a0.defers
  size : a.tmps.size = a0.tmps.size
  fr : ∀ t, (∀ i o, ops[i]? = some o → li.getD i false = true → o.dst ≠ some t) → a.tmps.getD t undef = a0.tmps.getD t undef
  sat : ∀ i, li.getD i false = true → SatF ops V a i
theorem InvF.frD {J : (Nat → Bool) → (Nat → Value) → World → Prop} {V : Nat → Value → Prop} {li : Array Bool} {a : Act} (h : InvF ops a0 J V li a w) : FrD ops a0 a :=
  ⟨h.def_, h.size, fun t ht => h.fr t fun i o ho _ => ht i o ho⟩
theorem wpAny_F {J : (Nat → Bool) → (Nat → Value) → World → Prop} {V : Nat → Value → Prop} (hsh : shapeD a0.tmps.size ops = true)
    (hstep : ∀ i o, ops[i]? = some o → ∀ l a w, closedF ops l → l i = false → J l (slF a) w → FrD ops a0 a → (∀ e ∈ o.after, Region.binds .any e = true → l e.on = true ∧ SatF ops V a e.on) →
      if Region.wanted o (yielded ops a.tmps) then OpOK P o a w (fun v w' => J (upd l i) (stepS o (slF a) v) w' ∧ V i (slotD o v)) else J (upd l i) (stepS o (slF a) undef) w ∧ V i undef)
    (hend : ∀ l a w, (∀ i, l i = true) → J l (slF a) w → FrD ops a0 a → (∀ i, i < ops.size → SatF ops V a i) → Q .normal a w) :
    ∀ (fuel : Nat) (li : Array Bool) (a : Act) (w : World), li.size = ops.size → li.toList.count false ≤ fuel → InvF ops a0 J V li a w → wpAny P .any ops Q fuel li a w := by
  have hall : ∀ (li : Array Bool), li.size = ops.size → Region.ready .any ops li = [] → ∀ i, i < ops.size → li.getD i false = true := by
    intro li hsz hr i
    induction i using Nat.strongRecOn with
    | ind i ih =>
      intro hi
      by_cases h : li.getD i false = true
      · exact h
      · exfalso
        have hm : i ∈ Region.ready .any ops li := by
          refine mem_ready.2 ⟨?_, ops[i], by simp [hi], fun e he hb => ?_⟩
          · simp [hsz, hi] at h ⊢; exact h
          · have := shapeD_back hsh (i := i) (o := ops[i]) (by simp [hi]) e he hb
            exact ih e.on this (by omega)
        rw [hr] at hm
        cases hm
  have htrue : ∀ (li : Array Bool), li.size = ops.size → (∀ i, i < ops.size → li.getD i false = true) → ∀ i, lsF li i = true := by
    intro li hsz h i
    unfold lsF
    by_cases hi : i < ops.size
    · have := h i hi
      have hi' : i < li.size := by omega
      simpa [hi'] using this
    · have hi' : ¬ i < li.size := by omega
      simp [hi']
  intro fuel
  induction fuel with
  | zero =>
    intro li a w hsz hc hinv
    have hnone : ∀ i, i < ops.size → li.getD i false = true := by
      intro i hi
      have hi' : i < li.size := by omega
      have hb : li[i] ≠ false := by
        intro e
        have : false ∈ li.toList := by rw [← e]; simp
        have := List.count_pos_iff.2 this
        omega
      simp [hi', hb]
    refine ⟨?_, hend _ a w (htrue li hsz hnone) hinv.inv hinv.frD fun i hi => hinv.sat i (hnone i hi)⟩
    rw [List.eq_nil_iff_forall_not_mem]
    intro j hj
    obtain ⟨h1, o, ho, _⟩ := mem_ready.1 hj
    have hlt : j < ops.size := (Array.getElem?_eq_some_iff.1 ho).1
    have h2 := hnone j hlt
    have hj' : j < li.size := by omega
    simp [hj'] at h1 h2
    rw [h1] at h2
    cases h2
  | succ fuel ih =>
    intro li a w hsz hc hinv
    refine ⟨fun hr => hend _ a w (htrue li hsz (hall li hsz hr)) hinv.inv hinv.frD fun i hi => hinv.sat i (hall li hsz hr i hi), fun i hi => ?_⟩
    obtain ⟨h1, o, ho, hdeps⟩ := mem_ready.1 hi
    have hlt : i < ops.size := (Array.getElem?_eq_some_iff.1 ho).1
    have hlt' : i < li.size := by omega
    have hfalse : li[i] = false := by simpa [hlt'] using h1
    have hdt : ∀ e ∈ o.after, Region.binds .any e = true → lsF li e.on = true := by
      intro e he hb
      have h3 := hdeps e he hb
      have h4 : e.on < i := shapeD_back hsh ho e he hb
      have h5 : e.on < li.size := by omega
      unfold lsF
      simpa [h5] using h3
    have hs := hstep i o ho (lsF li) a w hinv.cl (by unfold lsF; simpa [hlt'] using hfalse) hinv.inv hinv.frD fun e he hb => ⟨hdt e he hb, hinv.sat e.on (hdeps e he hb)⟩
    have hcount : (li.setIfInBounds i true).toList.count false ≤ fuel := by
      rw [Array.toList_setIfInBounds, List.count_set (by simpa using hlt')]
      have : false ∈ li.toList := by rw [← hfalse]; simp
      have := List.count_pos_iff.2 this
      have e1 : li.toList[i]'(by simpa using hlt') = false := by simpa using hfalse
      rw [e1]
      have e2 : ((true : Bool) == false) = false := rfl
      simp only [beq_self_eq_true, if_true, e2, Bool.false_eq_true, if_false]
      omega
    have hdl : ∀ d, o.dst = some d → d < a.tmps.size := fun d hd => by rw [hinv.size]; exact shapeD_lt hsh ho hd
    have next : ∀ v w', J (upd (lsF li) i) (stepS o (slF a) v) w' → V i (slotD o v) → InvF ops a0 J V (li.setIfInBounds i true) (a.put o.dst v) w' := by
      intro v w' hJ hA
      refine ⟨by rw [lsF_set hlt', slF_put hdl]; exact hJ, ?_, by rw [defers_put]; exact hinv.def_, by rw [size_put]; exact hinv.size, ?_, ?_⟩
      · rw [lsF_set hlt']
        intro j oj hj hlj e he hb
        unfold upd at hlj ⊢
        by_cases hji : j = i
        · subst hji; rw [ho] at hj; cases hj
          split
          · rfl
          · exact hdt e he hb
        · rw [if_neg hji] at hlj
          split
          · rfl
          · exact hinv.cl j oj hj hlj e he hb
      · intro t ht
        have hne : o.dst ≠ some t := ht i o ho (getD_set_self hlt' false)
        have e1 : (a.put o.dst v).tmps.getD t undef = a.tmps.getD t undef := by
          cases hd : o.dst with
          | none => rfl
          | some d => exact getD_put_ne (by intro e; exact hne (by rw [hd, e]))
        rw [e1]
        exact hinv.fr t fun j oj hj hlj => by
          by_cases hij : i = j
          · subst hij; rw [ho] at hj; cases hj; exact hne
          · exact ht j oj hj (by rw [getD_set_ne' hij]; exact hlj)
      · intro j hj
        by_cases hij : i = j
        · subst hij
          intro oj hoj
          rw [ho] at hoj; cases hoj
          unfold slotD at hA
          cases hd : o.dst with
          | none => rw [hd] at hA; exact hA
          | some d =>
            simp only [getD_put_self (hdl d hd)]
            rw [hd] at hA
            exact hA
        · rw [getD_set_ne' hij] at hj
          intro oj hoj
          have h3 := hinv.sat j hj oj hoj
          have hval : (match oj.dst with | some d => (a.put o.dst v).tmps.getD d undef | none => undef) = (match oj.dst with | some d => a.tmps.getD d undef | none => undef) := by
            cases hd : o.dst with
            | none => rfl
            | some d =>
              cases hdj : oj.dst with
              | none => rfl
              | some d' =>
                have := shapeD_ne hsh ho hoj hij hd
                rw [hdj] at this
                exact getD_put_ne (by intro e; exact this (by rw [e]))
          rw [hval]
          exact h3
    unfold wpOp
    simp only [ho]
    by_cases hw : Region.wanted o (yielded ops a.tmps) = true
    · rw [if_pos hw] at hs ⊢
      exact .inl (hs.wp fun v w' ⟨hI, hA⟩ => ih _ _ _ (by simpa using hsz) hcount (next v w' hI hA))
    · rw [if_neg hw] at hs ⊢
      exact ih _ _ _ (by simpa using hsz) hcount (next undef w hs.1 (by unfold slotD; split <;> exact hs.2))
/-- The end, by the slots' values. -/
theorem putsD_of {l : List Oper} {a : Act} (hsh : shapeD a0.tmps.size l.toArray = true) (hF : FrD l.toArray a0 a) :
    a = putsD a0 l (l.map fun (o : Oper) => match o.dst with | some d => a.tmps.getD d undef | none => undef) := by
  let vs : List Value := l.map fun (o : Oper) => match o.dst with | some d => a.tmps.getD d undef | none => undef
  have hvl : vs.length = l.length := by simp [vs]
  show a = putsD a0 l vs
  have h1 : a.tmps = (putsD a0 l vs).tmps := by
    apply Array.ext
    · rw [putsD_size, hF.2.1]
    · intro t ht1 ht2
      have key : a.tmps.getD t undef = (putsD a0 l vs).tmps.getD t undef := by
        by_cases hex : ∃ (i : Nat) (o : Oper), l[i]? = some o ∧ o.dst = some t
        · obtain ⟨i, o, ho, hd⟩ := hex
          have hlt : t < a0.tmps.size := shapeD_lt hsh (i := i) (o := o) (by simpa using ho) hd
          refine (putsD_at l vs a0 i t o (a.tmps.getD t undef) hvl.symm ho ?_ hd hlt fun j o' hj ho' => ?_).symm
          · simp [vs, ho, hd]
          · exact shapeD_ne hsh (i := i) (j := j) (o := o) (o' := o') (by simpa using ho) (by simpa using ho') (Ne.symm hj) hd
        · rw [putsD_get l vs a0 t hvl.symm fun o ho hd => hex ?_]
          · exact hF.2.2 t fun i o ho hd => hex ⟨i, o, by simpa using ho, hd⟩
          · obtain ⟨j, hj, e⟩ := List.mem_iff_getElem.1 ho
            exact ⟨j, o, by rw [List.getElem?_eq_getElem hj, e], hd⟩
      simpa [ht1, ht2] using key
  have h2 : a.defers = (putsD a0 l vs).defers := by rw [putsD_defers, hF.1]
  cases a
  generalize hp : putsD a0 l vs = b at *
  cases b
  simp_all
/-- The slots behind the region. -/
def stepsS : List Oper → (Nat → Value) → List Value → (Nat → Value)
  | o :: l, s, v :: vs => stepsS l (stepS o s v) vs
  | _, s, _ => s
theorem slF_putsD : ∀ (l : List Oper) (vs : List Value) (a : Act), (∀ o ∈ l, ∀ d, o.dst = some d → d < a.tmps.size) → slF (putsD a l vs) = stepsS l (slF a) vs
  | [], vs, a, _ => by cases vs <;> rfl
  | o :: l, [], a, _ => rfl
  | o :: l, v :: vs, a, h => by
    have ih := slF_putsD l vs (a.put o.dst v) fun o' ho' d hd => by rw [size_put]; exact h o' (List.mem_cons_of_mem _ ho') d hd
    rw [slF_put (h o List.mem_cons_self)] at ih
    exact ih
/-- What operation i of the region has to show. -/
def ShowF (P : Program) (l : List Oper) (a0 : Act) (J : (Nat → Bool) → (Nat → Value) → World → Prop) (V : List (Value → Prop)) (i : Nat) (o : Oper) : Prop :=
  ∀ li a w, closedF l.toArray li → li i = false → J li (slF a) w → FrD l.toArray a0 a → (∀ e ∈ o.after, Region.binds .any e = true → li e.on = true ∧ SatF l.toArray (fun i => V.getD i fun _ => True) a e.on) →
    if Region.wanted o (yielded l.toArray a.tmps) then OpOK P o a w (fun v w' => J (upd li i) (stepS o (slF a) v) w' ∧ (V.getD i fun _ => True) (slotD o v)) else J (upd li i) (stepS o (slF a) undef) w ∧ (V.getD i fun _ => True) undef
/-- What holds behind the region: the slots' values, one by one. -/
def endF : List (Value → Prop) → (List Value → Prop) → Prop
  | [], Q => Q []
  | A :: L, Q => ∀ v, A v → endF L fun vs => Q (v :: vs)
theorem endF_get : ∀ (L : List (Value → Prop)) (Q : List Value → Prop), endF L Q → ∀ vs : List Value, vs.length = L.length → (∀ i v, vs[i]? = some v → (L.getD i fun _ => True) v) → Q vs
  | [], Q, h, vs, hl, _ => by
    have : vs = [] := List.eq_nil_of_length_eq_zero (by simpa using hl)
    subst this; exact h
  | A :: L, Q, h, vs, hl, hs => by
    cases vs with
    | nil => simp at hl
    | cons v vs =>
      exact endF_get L (fun vs => Q (v :: vs)) (h v (hs 0 v rfl)) vs (by simpa using hl) fun i u hu => by
        have := hs (i + 1) u (by simpa using hu)
        simpa using this
theorem anyF_start {l : List Oper} (V : List (Value → Prop)) (J : (Nat → Bool) → (Nat → Value) → World → Prop) (hsh : shapeD a0.tmps.size l.toArray = true) (hlen : V.length = l.length) (h0 : J (fun i => decide (l.length ≤ i)) (slF a0) w.drew)
    (hstep : eachD (ShowF P l a0 J V) 0 l)
    (hend : endF V fun vs => ∀ w', J (fun _ => true) (stepsS l (slF a0) vs) w' → Q .normal (putsD a0 l vs) w') : wpAny P .any l.toArray Q l.toArray.size (Array.replicate l.toArray.size false) a0 w.drew := by
  refine wpAny_F (J := J) (V := fun i => V.getD i fun _ => True) hsh (fun i o ho li a w1 hc hi hJ hF hS => ?_) (fun li a w1 hl hJ hF hS => ?_) _ _ _ _ (by simp) ?_ ⟨?_, ?_, rfl, rfl, fun _ _ => rfl, fun i hi => ?_⟩
  · have := eachD_get _ l 0 hstep i o (by simpa using ho) li a w1 hc (by rw [Nat.zero_add]; exact hi) hJ hF hS
    rw [Nat.zero_add] at this
    exact this
  · have e : li = fun _ => true := funext hl
    subst e
    have hp := putsD_of hsh hF
    have hend' := endF_get V _ hend (l.map fun (o : Oper) => match o.dst with | some d => a.tmps.getD d undef | none => undef) (by rw [List.length_map, hlen]) (fun i v hv => by
      have hi : i < l.length := by
        have := (List.getElem?_eq_some_iff.1 hv).1
        simpa using this
      have h3 := hS i (by simpa using hi) l[i] (by simp [hi])
      simp only [List.getElem?_map, List.getElem?_eq_getElem hi, Option.map_some, Option.some.injEq] at hv
      rw [← hv]; exact h3) w1
    rw [← slF_putsD l _ a0 (fun o ho d hd => by
      obtain ⟨j, hj, e⟩ := List.mem_iff_getElem.1 ho
      exact shapeD_lt hsh (i := j) (o := o) (by simp [hj, e]) hd), ← hp] at hend'
    exact hend' hJ
  · rw [Array.toList_replicate, List.count_replicate_self]; exact Nat.le_refl _
  · have e : lsF (Array.replicate l.toArray.size false) = fun i => decide (l.length ≤ i) := by
      funext i
      unfold lsF
      by_cases hi : i < l.length
      · have : ¬ l.length ≤ i := by omega
        simp [hi, this]
      · have : l.length ≤ i := by omega
        simp [hi, this]
    rw [e]; exact h0
  · intro i o ho hl
    exfalso
    unfold lsF at hl
    have hi : i < l.length := by
      have := (Array.getElem?_eq_some_iff.1 ho).1
      simpa using this
    simp [hi] at hl
  · exfalso
    rw [Array.getD_eq_getD_getElem?, Array.getElem?_replicate] at hi
    split at hi <;> simp at hi
theorem wp_region_F {id : Nat} {l : List Oper} (V : List (Value → Prop)) (J : (Nat → Bool) → (Nat → Value) → World → Prop) (hm : P.follows .mixedOrders = true)
    (hsh : shapeD a0.tmps.size l.toArray = true) (hlen : V.length = l.length) (h0 : J (fun i => decide (l.length ≤ i)) (slF a0) w.drew)
    (hstep : eachD (ShowF P l a0 J V) 0 l)
    (hend : endF V fun vs => ∀ w', J (fun _ => true) (stepsS l (slF a0) vs) w' → Q .normal (putsD a0 l vs) w') : (Code.region id l.toArray true).wp P Q a0 w :=
  wp_region_any hm (anyF_start V J hsh hlen h0 hstep hend)
/-- Plain operations. -/
theorem opF_val {o : Oper} {a : Act} {v : Value} {J : (Nat → Value) → World → Prop} {A : Value → Prop} {d : Tmp} (hd : o.dst = some d) (hr : (execOp a.eval o).run P w = .ok (.value v) w) (hJ : J (updS (slF a) d v) w) (hA : A v) :
    OpOK P o a w (fun v w' => J (stepS o (slF a) v) w' ∧ A (slotD o v)) := by
  unfold OpOK
  rw [hr]
  unfold stepS slotD
  rw [hd]
  exact ⟨hJ, hA⟩
def selO (b : Bool) (o o' : Obj) : Obj := match b with | true => o' | false => o
theorem closedF.off {l : Nat → Bool} {i j : Nat} (hc : closedF ops l) (hw : waits ops j i = true) (hi : l i = false) : l j = false := by
  cases hj : l j with
  | false => rfl
  | true =>
    exfalso
    unfold waits at hw
    cases ho : ops[j]? with
    | none => rw [ho] at hw; simp at hw
    | some o =>
      rw [ho] at hw
      simp only [Option.map_some, Option.getD_some, List.any_eq_true, Bool.and_eq_true, decide_eq_true_eq] at hw
      obtain ⟨e, he, hb, rfl⟩ := hw
      rw [hc j o ho hj e (Array.mem_toList_iff.1 he) hb] at hi
      cases hi
end
end Go.Proofs.Ytohdkmgnnncpkaa

/- A range over a function: a round's regions out of the plain rules; yield's call; the statement. Over any program; no condition. -/
namespace Go.Proofs.Ytohdkmgnnncpkaa
open Go.RowKit
/-- The fence that lets everything by, in a round or in none. -/
@[reducible] def wideR (ro : Option Nat) : Fence := { fn := fun _ => True, depth := none, alive := false, round := ro }
section
variable {P : Program} {ops : Array Oper} {Q : Exit → Act → World → Prop} {ro : Option Nat} {n : Nat} {a : Act} {w : World}
theorem rowsIn_of {row : String} {args : Array Value} {R : Value → World → Prop} (h : Rows P row args w R) : RowsIn (wideR ro) n P row args w R :=
  fun c cs _ => let ⟨v, w', r, s⟩ := h c cs; ⟨v, w', r, (stepsIn_wide (P := P)).2 s⟩
theorem callsIn_of {f : FuncId} {args : Array Value} {R : Ending → World → Prop} (h : Calls P f args w R) : CallsIn (wideR ro) n P f args w R :=
  (callsIn_wide (n := n)).2 h
theorem calls_of_in {f : FuncId} {args : Array Value} {R : Ending → World → Prop} (h : CallsIn (wideR ro) n P f args w R) : Calls P f args w R :=
  (callsIn_wide (n := n)).1 h
/-- An operation that is no 'defer' is carried out in a round as anywhere. -/
theorem oper_in {o : Oper} {K : Act → World → Prop} (hnd : ∀ c, o.op ≠ .defer c) (h : o.wp P a w K Q) : o.wpIn (wideR ro) n P a w K Q := by
  refine ⟨fun _ _ => trivial, ?_⟩
  have e : o.semAt (wideR ro).round a.eval = execOp a.eval o := Oper.semAt_eq _ _ _ hnd
  rw [e]
  unfold Oper.wp at h
  generalize (execOp a.eval o).run P w = r at *
  cases r with
  | ok x w' =>
    cases x <;> simp only [Oper.upon, Oper.uponIn] at h ⊢ <;> first | exact h | exact ⟨fun hd => Bool.noConfusion hd, callsIn_of h⟩ | exact ⟨fun hd => Bool.noConfusion hd, rowsIn_of h⟩ | exact False.elim h
  | halt x w' => cases x <;> simp only [Oper.upon, Oper.uponIn] at h ⊢ <;> exact h
def noDefer (l : List Oper) : Bool := l.all fun o => match o.op with | .defer _ => false | _ => true
theorem noDefer_spec {l : List Oper} (h : noDefer l = true) : ∀ o ∈ l, ∀ c, o.op ≠ .defer c := by
  intro o ho c e
  have := List.all_eq_true.1 h o ho
  rw [e] at this
  exact absurd this (by simp)
/-- A list of operations in a round, out of the plain rules; behind it the rest. -/
theorem list_in (hlo : ¬ LetsOut Q) {rest : List Oper} : ∀ (pre : List Oper), (∀ o ∈ pre, ∀ c, o.op ≠ .defer c) → ∀ a w,
    wpList P ops (Exit.then (wpListIn (wideR ro) n P ops Q rest) Q) pre a w → wpListIn (wideR ro) n P ops Q (pre ++ rest) a w := by
  intro pre
  induction pre with
  | nil => intro _ a w h; exact h
  | cons o pre ih =>
    intro hnd a w h
    rw [List.cons_append]
    unfold wpList at h
    unfold wpListIn
    split
    · rename_i hw
      rw [if_pos hw] at h
      rcases h with h | ⟨_, h⟩
      · have h1 := oper_in (ro := ro) (n := n) (hnd o List.mem_cons_self) h
        have h2 := Oper.wpIn_mono (fun a w hk => ih (fun o ho => hnd o (List.mem_cons_of_mem _ ho)) a w hk) h1
        refine ⟨h2.1, ?_⟩
        have h3 := h2.2
        generalize (o.semAt (wideR ro).round a.eval).run P w = r at *
        cases r with
        | ok x w' => cases x <;> simp only [Oper.uponIn] at h3 ⊢ <;> exact h3
        | halt x w' => cases x <;> simp only [Oper.uponIn] at h3 ⊢ <;> exact h3
      · exact absurd h hlo
    · rename_i hw
      rw [if_neg hw] at h
      exact ⟨fun _ _ => trivial, ih (fun o ho => hnd o (List.mem_cons_of_mem _ ho)) _ _ h⟩
/-- A region in the order of the text, in a round. -/
theorem region_in {id : Nat} {l : List Oper} (hlo : ¬ LetsOut Q) (hnd : noDefer l = true) (h : wpList P l.toArray Q l a w) : (Code.region id l.toArray false).wpIn (wideR ro) n P Q a w := by
  refine wpIn_region_lit ?_
  have h1 := list_in (ro := ro) (n := n) (ops := l.toArray) (rest := []) hlo l (noDefer_spec hnd) a w (by
    have e : Exit.then (wpListIn (wideR ro) n P l.toArray Q []) Q = Q := by
      funext x; cases x <;> rfl
    rw [e]; exact h)
  rwa [List.append_nil] at h1
/-- A region whose last operations are walked in the fence. -/
theorem region_pre {id : Nat} {l : List Oper} (k : Nat) (hlo : ¬ LetsOut Q) (hnd : noDefer (l.take k) = true)
    (h : wpList P l.toArray (Exit.then (wpListIn (wideR none) n P l.toArray Q (l.drop k)) Q) (l.take k) a w) : (Code.region id l.toArray false).wp P Q a w := by
  have hw := fun h => (wpIn_wide (n := n) (P := P) (c := Code.region id l.toArray false) (Q := Q) (a := a) (w := w)).1 (wpIn_region_lit h)
  refine hw ?_
  have h1 := list_in (ro := none) (n := n) (ops := l.toArray) (rest := l.drop k) hlo (l.take k) (noDefer_spec hnd) a w h
  rwa [List.take_append_drop] at h1
/-- The rest of a list, out of the plain rules. -/
theorem rest_in {l : List Oper} (hlo : ¬ LetsOut Q) (hnd : noDefer l = true) (h : wpList P ops Q l a w) : wpListIn (wideR ro) n P ops Q l a w := by
  have h1 := list_in (ro := ro) (n := n) (ops := ops) (rest := []) hlo l (noDefer_spec hnd) a w (by
    have e : Exit.then (wpListIn (wideR ro) n P ops Q []) Q = Q := by
      funext x; cases x <;> rfl
    rw [e]; exact h)
  rwa [List.append_nil] at h1
/-- A call of yield. -/
theorem list_yield {dst : Option Tmp} {ty : TypeId} {pos : String} {after : Array Edge} {f x y : Operand} {ts : Array TypeId} {rest : List Oper} {lp : Nat} {args : Array Value} {R : Ending → World → Prop}
    (hf : a.eval f = .func (.yield lp) #[] #[]) (hx : #[a.eval x, a.eval y] = args) (hy : YieldAt (wideR none) (n - 1) P lp args w R)
    (h : ∀ e w', R e w' → ∃ v, e = .returned v ∧ wpListIn (wideR none) n P ops Q rest (a.put dst v) w') :
    wpListIn (wideR none) n P ops Q ({ dst := dst, op := .call { callee := .value f, args := #[x, y], argTypes := ts }, type := ty, pos := pos, after := after, guard := none } :: rest) a w := by
  obtain ⟨fn, tmps, assign, body, hy, hR⟩ := hy
  subst hx
  refine wpListIn_plain rfl fun K hK => ?_
  refine ⟨fun _ _ => trivial, ?_⟩
  have hrun : (execOp a.eval { dst := dst, op := .call { callee := .value f, args := #[x, y], argTypes := ts }, type := ty, pos := pos, after := after, guard := none }).run P w = .ok (.round lp fn tmps assign body) w := by
    simp only [execOp, resolve, hf, Deferred.ofValue, Sem.run_bind, Sem.run_pure, Result.andThen_ok, invoke]
    simpa using hy
  rw [Oper.semAt_none, hrun]
  refine ⟨fun hd => (by cases hd), hR.mono ?_⟩
  intro e w' hr
  obtain ⟨v, rfl, hw⟩ := h e w' hr
  exact hK _ _ hw
/-- The record of a range over a function. -/
@[reducible] def recF (fn : FuncId) (tmps : Array Value) (ps : Array Tmp) (assign body : Code) (D : Nat) (st : LoopState) (pe : Option Code) : Loop := { state := st, pending := pe, fn, tmps, params := ps, assign, body, defers := D }
/-- The statement: the two blocks are laid, the function is called with yield; behind it the pending jump. -/
theorem wp_rangeF {g : Operand} {ps : Array Tmp} {assign body : Code} {gf : Nat} {lb : Array Value} (hg : a.eval g = .func (.func gf) #[] lb) (hgf : Body P gf)
    (h : ∀ fn rc, RowKit.Hid (rc = fun st pe => recF fn a.tmps ps assign body w.heap.size st pe) → Calls P gf (#[.func (.yield (w.heap.size + 1)) #[] #[]] ++ lb) ((w.alloc (.deferred (some []))).alloc (.loop (rc .ready none)))
      (rangePost (wideR none) 0 P (w.heap.size + 1) Q { a with defers := { target := .collected w.heap.size, args := #[] } :: a.defers })) :
    (Code.rangeFunc g ps assign body).wp P Q a w := by
  have key : (Code.rangeFunc g ps assign body).wpIn (wideR none) 0 P Q a w := by
    refine wpIn_rangeFunc (F := wideR none) ?_
    intro fn _
    have hC : CallsIn (wideR none) (0 - 1) P gf (#[.func (.yield (w.heap.size + 1)) #[] #[]] ++ lb) ((w.alloc (.deferred (some []))).alloc (.loop (recF fn a.tmps ps assign body w.heap.size .ready none)))
      (rangePost (wideR none) 0 P (w.heap.size + 1) Q { a with defers := [{ target := .collected w.heap.size, args := #[] }] ++ a.defers }) := callsIn_of (ro := none) (h fn _ (hid rfl))
    have hE := run_enterLoop_outer (P := P) (w := w) fn a.tmps ps assign body
    have hR : (resolve a.eval (rangeCall g (w.heap.size + 1)) 0).run P ((w.alloc (.deferred (some []))).alloc (.loop (recF fn a.tmps ps assign body w.heap.size .ready none))) = .ok { target := .fn (.func gf) lb, args := #[.func (.yield (w.heap.size + 1)) #[] #[]] } ((w.alloc (.deferred (some []))).alloc (.loop (recF fn a.tmps ps assign body w.heap.size .ready none))) := by
      simp only [resolve, hg, Deferred.ofValue, Sem.run_pure]
      simp [Act.eval]
    have hI : (invoke (.fn (.func gf) lb) #[.func (.yield (w.heap.size + 1)) #[] #[]]).run P ((w.alloc (.deferred (some []))).alloc (.loop (recF fn a.tmps ps assign body w.heap.size .ready none))) = .ok (.enter gf (#[.func (.yield (w.heap.size + 1)) #[] #[]] ++ lb)) ((w.alloc (.deferred (some []))).alloc (.loop (recF fn a.tmps ps assign body w.heap.size .ready none))) := by
      obtain ⟨f, c, h1, h2, h3⟩ := hgf
      have h3' : ¬ f.name = "runtime.NumGoroutine" := by simpa using h3
      simp [invoke, callFunc, h1, h2, h3']
    exact ⟨_, _, _, _, _, _, _, _, hE, hR, fun _ _ => trivial, hI, fun hd => Bool.noConfusion hd, hC⟩
  exact (wpIn_wide (n := 0)).1 key
/-- How a round's body is left. -/
def endsRound (l : Nat) (rc : LoopState → Option Code → Loop) (R : Ending → World → Prop) : Exit → Act → World → Prop := fun e _ W => W.heap[l]? = some (.loop (rc .busy none)) ∧ match e with
  | .normal => R (.returned (.bool true)) (W.putObj l (.loop (rc .ready none)))
  | .ret => R (.returned (.bool false)) (W.putObj l (.loop (rc .done (some .ret))))
  | .exit id => R (.returned (.bool false)) (W.putObj l (.loop (rc .done (some (.exit id)))))
  | .goto t => R (.returned (.bool false)) (W.putObj l (.loop (rc .done (some (.goto t)))))
  | _ => False
/-- How the assignments to the loop's left sides are left. -/
def begunRound (P : Program) (l : Nat) (rc : LoopState → Option Code → Loop) (body : Code) (R : Ending → World → Prop) : Exit → Act → World → Prop :=
  Exit.then (fun a1 W1 => W1.heap[l]? = some (.loop (rc .ready none)) ∧ body.wpIn (wideR (some l)) 0 P (endsRound l rc R) a1 (W1.putObj l (.loop (rc .busy none)))) (fun _ _ _ => False)
/-- One round, from the record that is ready to the record behind it. -/
theorem yield_at {l D fn : Nat} {tmps : Array Value} {ps : Array Tmp} {assign body : Code} {args : Array Value} {R : Ending → World → Prop} {rc : LoopState → Option Code → Loop} (hrc : RowKit.Hid (rc = fun st pe => recF fn tmps ps assign body D st pe))
    (hl : w.heap[l]? = some (.loop (rc .ready none))) (hs : args.size = ps.size)
    (h : assign.wpIn (wideR (some l)) 0 P (begunRound P l rc body R) { tmps := (ps.zip args).foldl (fun t (p, v) => t.setIfInBounds p v) tmps, defers := [] } w) :
    YieldAt (wideR none) 0 P l args w R := by
  have hrc := hrc.out
  subst hrc
  refine ⟨fn, _, assign, body, run_yield hl hs, roundIn_of_wpIn trivial (wpIn_mono h ?_)⟩
  intro e a1 W1 he
  cases e <;> first | exact he.elim | skip
  obtain ⟨hl1, hb⟩ := he
  refine ⟨_, run_beginRound hl1 rfl, wpIn_mono hb ?_⟩
  rintro e a3 W ⟨hb, h3⟩
  have fin := fun jump => run_endRound (P := P) jump hb
  cases e with
  | normal => exact ⟨_, _, fin none, h3⟩
  | ret => exact ⟨_, _, fin (some .ret), h3⟩
  | exit id => exact ⟨_, _, fin (some (.exit id)), h3⟩
  | goto t => exact ⟨_, _, fin (some (.goto t)), h3⟩
  | panic ch => exact h3.elim
  | outgrown => exact h3.elim
theorem begun {l : Nat} {rc : LoopState → Option Code → Loop} {body : Code} {R : Ending → World → Prop} {a1 : Act} {W1 : World} (h1 : W1.heap[l]? = some (.loop (rc .ready none))) (h2 : body.wpIn (wideR (some l)) 0 P (endsRound l rc R) a1 (W1.putObj l (.loop (rc .busy none)))) : begunRound P l rc body R .normal a1 W1 := ⟨h1, h2⟩
theorem ends_normal {l : Nat} {rc : LoopState → Option Code → Loop} {R : Ending → World → Prop} {W : World} (h : W.heap[l]? = some (.loop (rc .busy none))) (hr : R (.returned (.bool true)) (W.putObj l (.loop (rc .ready none)))) : endsRound l rc R .normal a W := ⟨h, hr⟩
theorem ends_exit {l id : Nat} {rc : LoopState → Option Code → Loop} {R : Ending → World → Prop} {W : World} (h : W.heap[l]? = some (.loop (rc .busy none))) (hr : R (.returned (.bool false)) (W.putObj l (.loop (rc .done (some (.exit id)))))) : endsRound l rc R (.exit id) a W := ⟨h, hr⟩
theorem ends_ret {l : Nat} {rc : LoopState → Option Code → Loop} {R : Ending → World → Prop} {W : World} (h : W.heap[l]? = some (.loop (rc .busy none))) (hr : R (.returned (.bool false)) (W.putObj l (.loop (rc .done (some .ret))))) : endsRound l rc R .ret a W := ⟨h, hr⟩
theorem behind_none {l : Nat} {v : Value} {w' : World} (h : (Instr.endLoop l).run P w = .ok none w') (hq : Q .normal a w') : rangePost (wideR none) 0 P l Q a (.returned v) w := ⟨none, _, h, hq⟩
theorem behind_exit {l id : Nat} {v : Value} {w' : World} (h : (Instr.endLoop l).run P w = .ok (some (.exit id)) w') (hq : Q (.exit id) a w') : rangePost (wideR none) 0 P l Q a (.returned v) w := ⟨_, _, h, wpIn_exit hq⟩
theorem behind_ret {l : Nat} {v : Value} {w' : World} (h : (Instr.endLoop l).run P w = .ok (some .ret) w') (hq : Q .ret a w') : rangePost (wideR none) 0 P l Q a (.returned v) w := ⟨_, _, h, wpIn_ret hq⟩
/-- yield's two arguments in the round's frame. -/
theorem yield_at2 {l D fn : Nat} {tmps : Array Value} {p q : Tmp} {x y : Value} {assign body : Code} {R : Ending → World → Prop} {rc : LoopState → Option Code → Loop} (hrc : RowKit.Hid (rc = fun st pe => recF fn tmps #[p, q] assign body D st pe))
    (hl : w.heap[l]? = some (.loop (rc .ready none)))
    (h : assign.wpIn (wideR (some l)) 0 P (begunRound P l rc body R) { tmps := (tmps.setIfInBounds p x).setIfInBounds q y, defers := [] } w) :
    YieldAt (wideR none) 0 P l #[x, y] w R := by
  refine yield_at hrc hl rfl ?_
  have e : ((#[p, q] : Array Tmp).zip #[x, y]).foldl (fun t (p, v) => t.setIfInBounds p v) tmps = (tmps.setIfInBounds p x).setIfInBounds q y := by
    rw [← Array.foldl_toList, Array.toList_zip]; rfl
  rw [e]
  exact h
theorem end_loop {l D fn : Nat} {tmps : Array Value} {ps : Array Tmp} {assign body : Code} {rc : LoopState → Option Code → Loop} (hrc : RowKit.Hid (rc = fun st pe => recF fn tmps ps assign body D st pe)) {st : LoopState} {pe : Option Code}
    (h : w.heap[l]? = some (.loop (rc st pe))) (hb : st ≠ .busy) : (Instr.endLoop l).run P w = .ok pe (w.putObj l (.loop (rc .exhausted pe))) := by
  have hrc := hrc.out
  subst hrc
  exact run_endLoop h hb
/-- Leaving a function before the loop, and behind it. -/
theorem leave0 {F : Fence} {fn : Func} {R : Ending → World → Prop} {v : Value} (hr : (results fn a.tmps).run P w = .ok v w) (hd : a.defers = []) (hR : R (.returned v) w) : bodyPostM F n P fn R .ret a w := by
  simp only [bodyPostM, hd, LeavesInM, LeavesIn]
  exact ⟨v, hr, hR⟩
theorem leave1 {F : Fence} {fn : Func} {R : Ending → World → Prop} {v : Value} {D : Nat} {w' : World} (hD : w.heap[D]? = some (.deferred (some []))) (hw : w.putObj D (.deferred none) = w')
    (hr : (results fn a.tmps).run P w' = .ok v w') (hd : a.defers = [{ target := .collected D, args := #[] }]) (hR : R (.returned v) w') : bodyPostM F n P fn R .ret a w := by
  subst hw
  simp only [bodyPostM, hd, LeavesInM, LeavesIn]
  exact ⟨by simp, .inl ⟨_, _, rfl, run_takeDeferred hD, v, hr, hR⟩⟩
theorem calls_of_marks {f : FuncId} {fn : Func} {c : Code} {args : Array Value} {R : Ending → World → Prop} (hf : P.funcs[f]? = some fn) (hb : fn.body = some c)
    (h : c.wp P (bodyPostM (wideR none) 0 P fn R) { tmps := args ++ Array.replicate (fn.ntmps - args.size) undef, defers := [] } w) : Calls P f args w R :=
  calls_of_in (n := 0) (callsIn_of_wp_marks (F := wideR none) hf hb trivial ((wpIn_wide (n := 0)).2 h))
end
end Go.Proofs.Ytohdkmgnnncpkaa

/- What a round may turn: the caller's own memory, named by where the iterator's call began. Over any program; no condition. -/
namespace Go.Proofs.Ytohdkmgnnncpkaa
open Go.RowKit
section
variable {w w0 w1 W W' : World} {S : List Nat} {bs bs' : List (Nat × Obj)} {rows rows' R : List Row}
/-- A block of the call's own that is no cells turns. -/
theorem Holds.put {g : Nat} {o o' : Obj} (h : Holds w0 S bs rows W) (ht : Turn bs g o o' bs') : Holds w0 S bs' rows (W.putObj g o') := by
  have hlt : g < W.heap.size := by
    have : (g, o) ∈ bs := by
      clear h
      induction ht with
      | here => exact List.mem_cons_self
      | there _ ih => exact List.mem_cons_of_mem _ ih
    exact h.lt this
  exact h.turn ht (World.putObj_heap_same hlt) rfl rfl rfl (by simp [World.putObj]) (fun k _ hk => World.putObj_heap_other hk)
end
end Go.Proofs.Ytohdkmgnnncpkaa

/- Regions that draw their order, in a round. Over any program; no condition. -/
namespace Go.Proofs.Ytohdkmgnnncpkaa
open Go.RowKit
section
variable {P : Program} {ops : Array Oper} {Q : Exit → Act → World → Prop} {ro : Option Nat} {n : Nat} {a a0 : Act} {w w0 : World} {S : List Nat} {bs : List (Nat × Obj)} {rows : List Row} {md : Region.Mode}
theorem any_in (hnd : ∀ o ∈ ops.toList, ∀ c, o.op ≠ .defer c) (hlo : ¬ LetsOut Q) : ∀ (fuel : Nat) (li : Array Bool) (a : Act) (w : World), wpAny P md ops Q fuel li a w → wpAnyIn (wideR ro) n P md ops Q fuel li a w := by
  intro fuel
  induction fuel with
  | zero => intro li a w h; exact h
  | succ fuel ih =>
    intro li a w h
    refine ⟨h.1, fun i hi => ?_⟩
    have h1 := h.2 i hi
    unfold wpOp at h1
    unfold wpOpIn
    cases ho : ops[i]? with
    | none =>
      rw [ho] at h1
      exact ih _ _ _ h1
    | some o =>
      rw [ho] at h1
      have hm : o ∈ ops.toList := Array.mem_toList_iff.2 (Array.mem_of_getElem? ho)
      simp only at h1 ⊢
      by_cases hw : Region.wanted o (yielded ops a.tmps) = true
      · rw [if_pos hw] at h1 ⊢
        rcases h1 with h1 | ⟨_, h2⟩
        · exact Oper.wpIn_mono (fun a w hk => ih _ a w hk) (oper_in (ro := ro) (n := n) (hnd o hm) h1)
        · exact absurd h2 hlo
      · rw [if_neg hw] at h1 ⊢
        exact ⟨fun _ _ => trivial, ih _ _ _ h1⟩
theorem region_any_in {id : Nat} {l : List Oper} (hm : P.follows .mixedOrders = true) (hlo : ¬ LetsOut Q) (hnd : noDefer l = true)
    (h : wpAny P .any l.toArray Q l.toArray.size (Array.replicate l.toArray.size false) a w.drew) : (Code.region id l.toArray true).wpIn (wideR ro) n P Q a w :=
  wpIn_region_any hm (any_in (fun o ho => noDefer_spec hnd o (by simpa using ho)) hlo _ _ _ _ h)
/-- A region that draws its order and only reads, in a round. -/
theorem region_holds_in {id : Nat} {l : List Oper} (hm : P.follows .mixedOrders = true) (hB : Region.lexB .any l.toArray = true) (hlo : ¬ LetsOut Q) (hnd : noDefer l = true) (hH : Holds w0 S bs rows w)
    (h : wpQuiet P l.toArray (fun w' => Holds w0 S bs rows w') (fun a' => ∀ w', Holds w0 S bs rows w' → Q .normal a' w') l a) : (Code.region id l.toArray true).wpIn (wideR ro) n P Q a w := by
  refine region_any_in hm hlo hnd ?_
  simp only [Region.lexB, Bool.and_eq_true] at hB
  refine wpAny_of_quiet (C := fun w' => Holds w0 S bs rows w') (Q := fun a' => ∀ w', Holds w0 S bs rows w' → Q .normal a' w') (fun a' w' hw' h => h w' hw') _ _ _ _ hH.drew ?_
  have := wpAnyQ_lex (P := P) (C := fun w' => Holds w0 S bs rows w') (md := .any) hB.1 l 0 (Array.replicate l.toArray.size false) a (by simp) (by simpa using hB.2) h
  rw [show l.toArray.size = l.length by simp] at this ⊢
  exact this
/-- A region that draws its order and writes the call's own variables, in a round. -/
theorem region_F_in {id : Nat} {l : List Oper} (V : List (Value → Prop)) (J : (Nat → Bool) → (Nat → Value) → World → Prop) (hm : P.follows .mixedOrders = true) (hlo : ¬ LetsOut Q) (hnd : noDefer l = true)
    (hsh : shapeD a0.tmps.size l.toArray = true) (hlen : V.length = l.length) (h0 : J (fun i => decide (l.length ≤ i)) (slF a0) w.drew)
    (hstep : eachD (ShowF P l a0 J V) 0 l)
    (hend : endF V fun vs => ∀ w', J (fun _ => true) (stepsS l (slF a0) vs) w' → Q .normal (putsD a0 l vs) w') : (Code.region id l.toArray true).wpIn (wideR ro) n P Q a0 w :=
  region_any_in hm hlo hnd (anyF_start V J hsh hlen h0 hstep hend)
end
end Go.Proofs.Ytohdkmgnnncpkaa

/- Bytes, rows of bytes: the operations on them. No condition. -/
namespace Go.Proofs.Ytohdkmgnnncpkaa
open Go.RowKit
/-- A slice of bytes that is read. -/
abbrev Byts (w : World) (v : Value) (l : List UInt8) : Prop := Sl w v 1 l.length (l.map byt)
theorem Byts.at {w : World} {a : Addr} {cap : Nat} {l : List UInt8} (h : Byts w (.slice (some a) l.length cap) l) {j : Nat} (hj : j < l.length) : w.cell? (a.add j) = some (byt (l.getD j 0)) :=
  h.cell j _ (by simp [hj])
section
variable {w0 : World} {S : List Nat} {bs : List (Nat × Obj)} {rows : List Row} {ops : Array Oper} {rest : List Oper} {a : Act} {dst : Option Tmp} {ty : TypeId} {pos : String} {after : Array Edge} {guard : Option (Nat × Bool)} {K : Act → Prop} {P : Program} {C : World → Prop}
end
theorem byt_cell1 (l : List UInt8) : ∀ u ∈ l.map byt, u.oneCell' = true := by
  intro u hu; obtain ⟨x, _, rfl⟩ := List.mem_map.1 hu; rfl
theorem Byts.of {w : World} {v : Value} {n : Nat} {l : List UInt8} {cs : List Value} (h : Sl w v 1 n cs) (hn : n = l.length) (hc : cs = l.map byt) : Byts w v l := by subst hn hc; exact h
section
variable {w w0 : World} {S : List Nat} {bs : List (Nat × Obj)} {rows : List Row} {ops : Array Oper} {rest : List Oper} {a : Act} {dst : Option Tmp} {ty : TypeId} {pos : String} {after : Array Edge} {guard : Option (Nat × Bool)} {Q : Exit → Act → World → Prop} {P : Program}
end
section
variable {w0 : World} {S : List Nat} {bs : List (Nat × Obj)} {rows : List Row} {ops : Array Oper} {rest : List Oper} {a : Act} {dst : Option Tmp} {ty : TypeId} {pos : String} {after : Array Edge} {guard : Option (Nat × Bool)} {K : Act → Prop} {P : Program} {C : World → Prop}
end
section
variable {w w0 : World} {S : List Nat} {bs bs' : List (Nat × Obj)} {rows : List Row} {ops : Array Oper} {rest : List Oper} {a : Act} {dst : Option Tmp} {ty : TypeId} {pos : String} {after : Array Edge} {guard : Option (Nat × Bool)} {Q : Exit → Act → World → Prop} {P : Program} {C : World → Prop} {K : Act → Prop}
theorem ex_nilCheck {ρ : Operand → Value} {x : Operand} {ad : Addr} (hx : ρ x = .pointer (some ad)) (w : World) :
    (execOp ρ { dst := dst, op := .nilCheck x, type := ty, pos := pos, after := after, guard := guard }).run P w = .ok (.value (.pointer (some ad))) w := by
  simp only [execOp, hx, Sem.run_pure]
theorem wpQ_nilCheck {x : Operand} {ad : Addr} (hx : a.eval x = .pointer (some ad))
    (hg : Region.wanted { dst := dst, op := .nilCheck x, type := ty, pos := pos, after := after, guard := guard } (yielded ops a.tmps) = true)
    (h : wpQuiet P ops C K rest (a.put dst (.pointer (some ad)))) : wpQuiet P ops C K ({ dst := dst, op := .nilCheck x, type := ty, pos := pos, after := after, guard := guard } :: rest) a :=
  wpQuiet_ex hg (fun w _ => ex_nilCheck (ρ := a.eval) hx w) h
theorem wpL_nilCheck {x : Operand} {ad : Addr} (hx : a.eval x = .pointer (some ad))
    (hg : Region.wanted { dst := dst, op := .nilCheck x, type := ty, pos := pos, after := after, guard := guard } (yielded ops a.tmps) = true)
    (h : wpList P ops Q rest (a.put dst (.pointer (some ad))) w) : wpList P ops Q ({ dst := dst, op := .nilCheck x, type := ty, pos := pos, after := after, guard := guard } :: rest) a w :=
  wpList_ex hg (ex_nilCheck (ρ := a.eval) hx w) h
end
theorem wpL_loadAt {w : World} {ops : Array Oper} {rest : List Oper} {a : Act} {dst : Option Tmp} {ty : TypeId} {pos : String} {after : Array Edge} {guard : Option (Nat × Bool)} {Q : Exit → Act → World → Prop} {P : Program} {t : TypeId} (hA : OneT P t) {x : Operand} {ad : Addr} {v : Value} (hc : w.cell? ad = some v) (hx : a.eval x = .pointer (some ad))
    (hg : Region.wanted { dst := dst, op := .load t x, type := ty, pos := pos, after := after, guard := guard } (yielded ops a.tmps) = true)
    (h : wpList P ops Q rest (a.put dst v) w) : wpList P ops Q ({ dst := dst, op := .load t x, type := ty, pos := pos, after := after, guard := guard } :: rest) a w := by
  obtain ⟨d, hu, hd⟩ := hA
  exact wpList_ex hg (ex_load_one (ρ := a.eval) hx hu hd hc) h
end Go.Proofs.Ytohdkmgnnncpkaa

/- The library's Builder: what a caller's memory holds behind WriteByte. Condition: at most a million bytes. -/
namespace Go.Proofs.Ytohdkmgnnncpkaa
open Go.RowKit
section
variable {w w0 : World} {S : List Nat} {bs bs' : List (Nat × Obj)} {rows : List Row} {ops : Array Oper} {rest : List Oper} {a : Act} {dst : Option Tmp} {ty : TypeId} {pos : String} {after : Array Edge} {guard : Option (Nat × Bool)} {Q : Exit → Act → World → Prop}
end
@[reducible] def selfP (b : Nat) : Value := .pointer (some ⟨b, 0, none⟩)
end Go.Proofs.Ytohdkmgnnncpkaa

/- The library's Builder handed back as a string; Hex of ascii, String of a digest. Condition: some bytes, at most half a million. -/
namespace Go.Proofs.Ytohdkmgnnncpkaa
open Go.RowKit
section
variable {w w0 : World} {S : List Nat} {bs bs' : List (Nat × Obj)} {rows : List Row} {ops : Array Oper} {rest : List Oper} {a : Act} {dst : Option Tmp} {ty : TypeId} {pos : String} {after : Array Edge} {guard : Option (Nat × Bool)} {Q : Exit → Act → World → Prop} {P : Program} {C : World → Prop} {K : Act → Prop}
end
end Go.Proofs.Ytohdkmgnnncpkaa

/- Strings and bytes: indexed, held against each other, made of bytes. Over any program. No condition. -/
namespace Go.Proofs.Ytohdkmgnnncpkaa
open Go.RowKit
section
variable {P : Program} {w : World} {ρ : Operand → Value} {dst : Option Tmp} {ty : TypeId} {pos : String} {after : Array Edge} {guard : Option (Nat × Bool)}
end
section
variable {P : Program} {w : World} {ρ : Operand → Value} {dst : Option Tmp} {ty : TypeId} {pos : String} {after : Array Edge} {guard : Option (Nat × Bool)}
end
section
variable {P : Program} {ops : Array Oper} {rest : List Oper} {a : Act} {dst : Option Tmp} {ty : TypeId} {pos : String} {after : Array Edge} {guard : Option (Nat × Bool)} {C : World → Prop} {K : Act → Prop} {w : World} {Q : Exit → Act → World → Prop}
end
end Go.Proofs.Ytohdkmgnnncpkaa

/- Hex of ascii, String of a digest. Condition: some bytes, at most two hundred thousand. -/
namespace Go.Proofs.Ytohdkmgnnncpkaa
open Go.RowKit
section
variable {P : Program} {ops : Array Oper} {rest : List Oper} {a : Act} {dst : Option Tmp} {ty : TypeId} {pos : String} {after : Array Edge} {guard : Option (Nat × Bool)} {w w0 : World} {S : List Nat} {bs : List (Nat × Obj)} {rows : List Row} {Q : Exit → Act → World → Prop} {C : World → Prop} {K : Act → Prop}
theorem wpL_idx {t e : TypeId} {sz bytes : Nat} (hE : Elem P t e sz bytes) {x i : Operand} {ad : Addr} {n c j : Nat} {q : Int} {k : IntKind} (hx : a.eval x = .slice (some ad) n c) (hi : a.eval i = .int k q) (hq : q = (j : Int)) (hj : j < n)
    (hg : Region.wanted { dst := dst, op := .indexAddr t x i, type := ty, pos := pos, after := after, guard := guard } (yielded ops a.tmps) = true)
    (h : wpList P ops Q rest (a.put dst (.pointer (some (ad.add (j * sz))))) w) : wpList P ops Q ({ dst := dst, op := .indexAddr t x i, type := ty, pos := pos, after := after, guard := guard } :: rest) a w :=
  wpList_ex hg (ex_index (ρ := a.eval) hE hx hi hq hj w) h
end
end Go.Proofs.Ytohdkmgnnncpkaa

/- IndexByte of a constant, Unhex of ascii. Condition: a text of at most a million bytes. -/
namespace Go.Proofs.Ytohdkmgnnncpkaa
open Go.RowKit
section
variable {P : Program} {ops : Array Oper} {rest : List Oper} {a : Act} {dst : Option Tmp} {ty : TypeId} {pos : String} {after : Array Edge} {guard : Option (Nat × Bool)} {w w0 : World} {S : List Nat} {bs : List (Nat × Obj)} {rows : List Row} {Q : Exit → Act → World → Prop} {C : World → Prop} {K : Act → Prop}
/-- A function value is called. -/
theorem ex_callV {f : FuncId} (hf : Body P f) {x : Operand} {first cap : Array Value} {xs : Array Operand} {ats : Array TypeId} {args : Array Value} (hx : a.eval x = .func (.func f) first cap) (ha : first ++ (xs.toList.map a.eval).toArray ++ cap = args) (w : World) :
    (execOp a.eval { dst := dst, op := .call { callee := .value x, args := xs, argTypes := ats }, type := ty, pos := pos, after := after, guard := guard }).run P w = .ok (.enter f args) w := by
  obtain ⟨fn, c, h1, h2, h3⟩ := hf
  have h3' : ¬ fn.name = "runtime.NumGoroutine" := by simpa using h3
  have hm : (xs.toList.map a.eval).toArray = xs.map a.eval := by rw [← Array.toList_map, Array.toArray_toList]
  rw [hm] at ha
  simp only [execOp, resolve, hx, Deferred.ofValue, Sem.run_bind, Sem.run_pure, Result.andThen_ok, invoke, ha]
  simp [callFunc, h1, h2, h3']
theorem wpL_callV {f : FuncId} {args first cap : Array Value} {R : Ending → World → Prop} (hf : Body P f) {x : Operand} {xs : Array Operand} {ats : Array TypeId} (hx : a.eval x = .func (.func f) first cap) (ha : first ++ (xs.toList.map a.eval).toArray ++ cap = args)
    (hc : Calls P f args w R)
    (hg : Region.wanted { dst := dst, op := .call { callee := .value x, args := xs, argTypes := ats }, type := ty, pos := pos, after := after, guard := guard } (yielded ops a.tmps) = true)
    (h : ∀ e w', R e w' → ∃ v, e = .returned v ∧ wpList P ops Q rest (a.put dst v) w') : wpList P ops Q ({ dst := dst, op := .call { callee := .value x, args := xs, argTypes := ats }, type := ty, pos := pos, after := after, guard := guard } :: rest) a w :=
  wpList_step fun K hK => by
    rw [if_pos hg]
    unfold Oper.wp
    rw [ex_callV hf hx ha w]
    simp only [Oper.upon]
    exact hc.mono fun e w' hR => by
      obtain ⟨v, rfl, hv⟩ := h e w' hR
      exact hK _ _ hv
end
end Go.Proofs.Ytohdkmgnnncpkaa

/- Bytes divided, bytes as numbers, strings cut. Over any program. No condition. -/
namespace Go.Proofs.Ytohdkmgnnncpkaa
open Go.RowKit
section
variable {P : Program} {ops : Array Oper} {rest : List Oper} {a : Act} {dst : Option Tmp} {ty : TypeId} {pos : String} {after : Array Edge} {guard : Option (Nat × Bool)} {w w0 : World} {S : List Nat} {bs : List (Nat × Obj)} {rows : List Row} {Q : Exit → Act → World → Prop} {C : World → Prop} {K : Act → Prop}
theorem run_remB (t : TypeId) (m n : Nat) (hn : 0 < n) (w : World) : (binOp .rem t (.int .u8 (m : Int)) (.int .u8 (n : Int))).run P w = .ok (.int .u8 ((m % n : Nat) : Int)) w := by
  show (Op.intDiv .rem .u8 (m : Int) (n : Int)).run P w = _
  have h0 : ¬ (n : Int) = 0 := by omega
  have h1 : ((m : Int).tmod (n : Int)) = ((m % n : Nat) : Int) := by rw [IntWalk.rem_in _ _ (by omega)]; norm_cast
  simp only [Op.intDiv, h0, if_false, Sem.run_pure, h1]
end
section
variable {P : Program} {w : World} {ρ : Operand → Value} {dst : Option Tmp} {ty : TypeId} {pos : String} {after : Array Edge} {guard : Option (Nat × Bool)}
end
end Go.Proofs.Ytohdkmgnnncpkaa

/- Copies into the call's own memory. Over any program. No condition. -/
namespace Go.Proofs.Ytohdkmgnnncpkaa
open Go.RowKit
section
variable {P : Program} {ops : Array Oper} {rest : List Oper} {a : Act} {dst : Option Tmp} {ty : TypeId} {pos : String} {after : Array Edge} {guard : Option (Nat × Bool)} {w w0 : World} {S : List Nat} {bs bs' : List (Nat × Obj)} {rows : List Row} {Q : Exit → Act → World → Prop} {C : World → Prop} {K : Act → Prop}
theorem wpL_neqA {n : Nat} {t : TypeId} {b : Bool} {p q : Arr n} (hA : ArrT P t n) {x y : Operand} {yt : TypeId} (hx : a.eval x = p.val) (hy : a.eval y = q.val) (hb : (!(p == q)) = b)
    (hg : Region.wanted { dst := dst, op := .binOp .neq t x y yt, type := ty, pos := pos, after := after, guard := guard } (yielded ops a.tmps) = true)
    (h : wpList P ops Q rest (a.put dst (.bool b)) w) : wpList P ops Q ({ dst := dst, op := .binOp .neq t x y yt, type := ty, pos := pos, after := after, guard := guard } :: rest) a w := by
  subst hb; exact wpList_neq_arr hA hx hy hg h
theorem wpQ_eqlA {n : Nat} {t : TypeId} {b : Bool} {p q : Arr n} (hA : ArrT P t n) {x y : Operand} {yt : TypeId} (hx : a.eval x = p.val) (hy : a.eval y = q.val) (hb : (p == q) = b)
    (hg : Region.wanted { dst := dst, op := .binOp .eql t x y yt, type := ty, pos := pos, after := after, guard := guard } (yielded ops a.tmps) = true)
    (h : wpQuiet P ops C K rest (a.put dst (.bool b))) : wpQuiet P ops C K ({ dst := dst, op := .binOp .eql t x y yt, type := ty, pos := pos, after := after, guard := guard } :: rest) a := by
  subst hb; exact wpQ_eql_arr hA hx hy hg h
theorem wpQ_neqA {n : Nat} {t : TypeId} {b : Bool} {p q : Arr n} (hA : ArrT P t n) {x y : Operand} {yt : TypeId} (hx : a.eval x = p.val) (hy : a.eval y = q.val) (hb : (!(p == q)) = b)
    (hg : Region.wanted { dst := dst, op := .binOp .neq t x y yt, type := ty, pos := pos, after := after, guard := guard } (yielded ops a.tmps) = true)
    (h : wpQuiet P ops C K rest (a.put dst (.bool b))) : wpQuiet P ops C K ({ dst := dst, op := .binOp .neq t x y yt, type := ty, pos := pos, after := after, guard := guard } :: rest) a := by
  subst hb; exact wpQ_neq_arr hA hx hy hg h
end
end Go.Proofs.Ytohdkmgnnncpkaa

/- Same of the references' laws: whether two lists are equal. Condition: the first list's length is an int. -/
namespace Go.Proofs.Ytohdkmgnnncpkaa
open Go.RowKit
def SameRel (w : World) (l m : List Id) (i : Value) (wr : World) : Prop :=
  ∃ k : Nat, k ≤ l.length ∧ i = .int .i64 k ∧ l.take k = m.take k ∧ Holds w [] [] [] wr
def RetB (w : World) (b : Bool) (e : Ending) (w' : World) : Prop := e = .returned (.bool b) ∧ Below w.heap.size w w'
theorem RetB.mk {w w' : World} {b c : Bool} (h : b = c) (hb : Below w.heap.size w w') : RetB w c (.returned (.bool b)) w' := ⟨by rw [h], hb⟩
theorem beq_no {α : Type} [BEq α] [LawfulBEq α] {x y : α} (h : x ≠ y) : (x == y) = false := by rw [beq_eq_false_iff_ne]; exact h
theorem beq_yes {α : Type} [BEq α] [LawfulBEq α] {x y : α} (h : x = y) : (x == y) = true := by rw [beq_iff_eq]; exact h
theorem ne_at {α : Type} {l m : List α} {k : Nat} (hl : k < l.length) (hm : k < m.length) (h : l[k] ≠ m[k]) : l ≠ m := by
  intro e; subst e; exact h rfl
theorem take_next {α : Type} {l m : List α} {k : Nat} (hl : k < l.length) (hm : k < m.length) (h : l[k] = m[k]) (ht : l.take k = m.take k) : l.take (k + 1) = m.take (k + 1) := by
  rw [← List.take_append_getElem hl, ← List.take_append_getElem hm, ht, h]
end Go.Proofs.Ytohdkmgnnncpkaa

/- slices.Clone, slices.Equal at identities. Condition: lists of at most 2^42 identities. -/
namespace Go.Proofs.Ytohdkmgnnncpkaa
open Go.RowKit
theorem retIds_of {w w' : World} {E : TypeId} {rows : List Row} {ao : Option Addr} {n cap : Nat} {l : List Id} {xs : List Value} (h : Holds w [] [] (⟨.slice ao n cap, E, 32, n, xs⟩ :: rows) w') (hn : n = l.length) (hx : xs = flat l) : RetIds E w l (.returned (.slice ao n cap)) w' := by
  subst hn hx
  exact ⟨_, _, rfl, h.own0, (h : Holds w [] [] _ w').below⟩
theorem retIds_nil (w : World) (E : TypeId) : RetIds E w [] (.returned (.slice none 0 0)) w := ⟨_, _, rfl, World.ownsRow_nil _ _ _ _, Below.refl _ _⟩
set_option maxHeartbeats 400000 in
theorem clone_any (w : World) (v : Value) (l : List Id) (hl : Ids w v l) (hn : l.length * 32 ≤ 140737488355328) :
    Calls Try.prog 33 #[v] w (RetIds 33 w l) := by
  obtain ⟨ao, cap, rfl, _⟩ := hl.shape
  have HH := hid (Holds.init w)
  have qT : ∀ (w : World) (a : Option Addr) (n c n' c' : Nat), (binOp .eql 24 (.slice a n c) (.slice none n' c')).run Try.prog w = .ok (.bool a.isNone) w := fun w a n c n' c' => Lib.run_eql_slice_nil w _ _ a n c n' c' Try.underlying24
  cases ao with
  | none =>
    have h0 : l = [] := by
      cases l with
      | nil => rfl
      | cons x l => obtain ⟨a, c, e⟩ := hl.some (by simp); cases e
    subst h0
    go_enter Try.func33, Try.ntmps33
    go_wp2
    go_ret
    exact retIds_nil w 33
  | some a =>
    have HN := hid hn
    have HL := hid hl
    clear hn hl
    go_enter Try.func33, Try.ntmps33
    go_wp2_with (first
      | ((with_reducible apply wpList_buildArr E24 [] HH.out); go_must ((rfl; rfl; decide; rfl; (intro g w1 hq; have H1 := hid hq; clear hq HH))))
      | ((with_reducible apply wpList_append E24 H1.out (H1.out.sl HL.out) (flat_cell1 _)); go_must (((have := HN.out; omega); rfl; rfl; rfl; (intro ao1 cap1 w2 hq; have H2 := hid hq; clear hq H1)))))
    go_ret
    have h2 := H2.out
    simp only [Nat.zero_add, flat_nil, List.nil_append] at h2
    exact retIds_of h2 rfl rfl
set_option maxHeartbeats 400000 in
theorem equal_any (w : World) (v1 v2 : Value) (l m : List Id) (h1 : Ids w v1 l) (h2 : Ids w v2 m) (hn : l.length ≤ 9223372036854775807) :
    Calls Try.prog 34 #[v1, v2] w (RetB w (l == m)) := by
  obtain ⟨a1, c1, rfl, _⟩ := h1.shape
  obtain ⟨a2, c2, rfl, _⟩ := h2.shape
  have HH := hid (Holds.init w)
  by_cases hlen : l.length = m.length
  · have hb : ((l.length : Int) != (m.length : Int)) = false := by simp [hlen]
    have HL := hid hlen
    clear hlen
    go_enter Try.func34, Try.ntmps34
    go_wp2
    go_loopw [13] (SameRel w l m) (fun i _ => l.length - (intOf i).toNat)
    case atStart => exact ⟨0, Nat.zero_le _, rfl, rfl, HH.out⟩
    case round =>
      obtain ⟨k, hk, rfl, htk, hr⟩ := hrel
      have HR := hid hr
      have HT := hid htk
      clear hr htk HH
      by_cases hlt : k < l.length
      · have hlt2 : k < m.length := by rw [← HL.out]; exact hlt
        obtain ⟨x1, y1, e⟩ := h1.some (by omega)
        cases e
        obtain ⟨x2, y2, e⟩ := h2.some (by omega)
        cases e
        go_wp2
        refine wp_region_holds (by kernel_rfl) (by kernel_rfl) HR.out ?_
        repeat ((first
          | ((with_reducible apply wpQ_skip); rfl; skip)
          | ((with_reducible apply wpQ_index E24 (j := k) (ad := x1)); rfl; rfl; rfl; exact hlt; rfl)
          | ((with_reducible apply wpQ_index E24 (j := k) (ad := x2)); rfl; rfl; rfl; exact hlt2; rfl)
          | ((with_reducible apply wpQ_load_agg A33 (Arr.len l[k])); ((intro wq hwq; exact (show Ids wq _ l from hwq.sl h1).get k hlt); rfl; rfl))
          | ((with_reducible apply wpQ_load_agg A33 (Arr.len m[k])); go_must (((intro wq hwq; exact (show Ids wq _ m from hwq.sl h2).get k hlt2); rfl; rfl)))
          | ((with_reducible apply wpQ_neq_arr R33 (p := l[k]) (q := m[k])); go_must ((rfl; rfl; rfl)))
          | ((with_reducible apply wpQ_move); rfl; rfl)
          | ((with_reducible apply wpQ_assign); rfl; rfl)
          | ((with_reducible apply wpQ_pick); rfl; rfl; rfl)
          | ((with_reducible apply wpQ_not); rfl; rfl)
          | ((with_reducible apply wpQ_cmp (b := true)); rfl; rfl; rfl; (first | rfl | assumption | (simp only [cmpB, decide_eq_true_eq, decide_eq_false_iff_not, beq_iff_eq, bne_iff_ne, ne_eq, beq_eq_false_iff_ne, bne_eq_false_iff_eq, gt_iff_lt, ge_iff_le]; omega) | (simp; omega)); rfl)
          | ((with_reducible apply wpQ_cmp (b := false)); rfl; rfl; rfl; (first | rfl | assumption | (simp only [cmpB, decide_eq_true_eq, decide_eq_false_iff_not, beq_iff_eq, bne_iff_ne, ne_eq, beq_eq_false_iff_ne, bne_eq_false_iff_eq, gt_iff_lt, ge_iff_le]; omega) | (simp; omega)); rfl)
          | ((with_reducible apply wpQ_cmp); rfl; rfl; rfl; rfl; rfl)
          | ((with_reducible apply wpQ_arith); rfl; rfl; rfl; (exact IntWalk.i64_in _ (by (try simp only [arithI]); omega)); rfl)); simp only [arithI, Act.put, Act.eval, List.setIfInBounds_toArray, List.set_cons_succ, List.set_cons_zero, Array.getD_eq_getD_getElem?, List.getElem?_toArray, List.getElem?_cons_succ, List.getElem?_cons_zero, Option.getD_some])
        refine wpQuiet_nil ?_
        intro wq hq_
        have HQ := hid hq_
        clear hq_
        go_wp2
        · have hx : (!(l[k] == m[k])) = true := by assumption
          go_ret
          exact RetB.mk (beq_no (ne_at hlt hlt2 (Arr.ne_of hx))).symm HQ.out.below
        · have hx : (!(l[k] == m[k])) = false := by assumption
          go_roundw
          case rel => exact ⟨k + 1, by omega, by go_num, take_next hlt hlt2 (Arr.eq_of hx) HT.out, HQ.out⟩
          case measure => simp [intOf]; omega
      · go_wp2
        go_ret
        obtain rfl : k = l.length := by omega
        have e := HT.out
        rw [List.take_length, HL.out, List.take_length] at e
        exact RetB.mk (beq_yes e).symm HR.out.below
  · have hb : ((l.length : Int) != (m.length : Int)) = true := by simp; omega
    have HL := hid hlen
    clear hlen
    go_enter Try.func34, Try.ntmps34
    go_wp2
    go_ret
    exact RetB.mk (beq_no (fun e => HL.out (by rw [e]))).symm (Below.refl _ _)
end Go.Proofs.Ytohdkmgnnncpkaa

/- trim of the references, Cut of the reference: the first and the last elements. Condition: lists of at most 2^42 identities, at least one to keep. -/
namespace Go.Proofs.Ytohdkmgnnncpkaa
open Go.RowKit
/-- The first element and the last ones, n in all. -/
def cutL (l : List Id) (n : Nat) : List Id := if l.length ≤ n then l else if n = 1 then l.drop (l.length - 1) else l.take 1 ++ l.drop (l.length - n + 1)
theorem take_one {α : Type} {l : List α} (h : 0 < l.length) : l.take 1 = [l[0]] := by
  cases l with
  | nil => simp at h
  | cons x l => rfl
set_option maxRecDepth 100000 in
set_option maxHeartbeats 400000 in
theorem trim_any (w : World) (v : Value) (l : List Id) (hl : Ids w v l) (hn : l.length * 32 ≤ 140737488355328) (n : Nat) (h1 : 1 ≤ n) :
    Calls Try.prog 29 #[v, .int .i64 n] w (RetIds 33 w (cutL l n)) := by
  obtain ⟨ao, cap, rfl, hc⟩ := hl.shape
  have HH := hid (Holds.init w)
  have HL := hid hl
  clear hl
  by_cases hle : l.length ≤ n
  · go_enter Try.func29, Try.ntmps29
    go_wp2_with (go_at_call 33; refine (clone_any w _ l HL.out hn).mono ?_; rintro e w' ⟨ao', cap', rfl, hr⟩; have HR := hid hr; clear hr)
    go_ret
    have e : cutL l n = l := by unfold cutL; rw [if_pos hle]
    rw [e]
    exact ⟨_, _, rfl, HR.out⟩
  · by_cases h1' : n = 1
    · subst h1'
      rw [show ((1 : Nat) : Int) = 1 from rfl]
      go_enter Try.func29, Try.ntmps29
      have h0 : 1 < l.length := by omega
      have HD := hid (Ids.of (HL.out.dropm (j := l.length - 1) (by omega)) (l := l.drop (l.length - 1)) (by simp) (flat_drop l _))
      go_wp2_with (go_at_call 33; refine (clone_any w _ _ HD.out (by simp; omega)).mono ?_; rintro e w' ⟨ao', cap', rfl, hr⟩; have HR := hid hr; clear hr)
      go_ret
      have e : cutL l 1 = l.drop (l.length - 1) := by unfold cutL; rw [if_neg (by omega), if_pos rfl]
      rw [e]
      exact RetIds.mk HR.out (by simp)
    · have hlt : n < l.length := by omega
      obtain ⟨a, c', e⟩ := HL.out.some (by omega)
      cases e
      go_enter Try.func29, Try.ntmps29
      go_wp2
      refine wp_region_R [Asr.is (.slice (some a) l.length cap), Asr.is (.pointer (some (a.add (0 * 32)))), Asr.is (l[0]).val, Asr.full w.heap.size 33 32 1 (flat [l[0]]), Asr.is (.slice (some a) l.length cap), Asr.is (.slice (some a) l.length cap), Asr.is (.int .i64 l.length), Asr.is (.int .i64 n), Asr.is (.int .i64 (l.length - n)), Asr.is (.int .i64 (l.length - n + 1)), Asr.is (.slice (if cap = l.length - n + 1 then some a else (some a).map (·.add ((l.length - n + 1) * 32))) (l.length - (l.length - n + 1)) (cap - (l.length - n + 1))), Asr.row w.heap.size 33 32 (1 + (l.length - (l.length - n + 1))) (flat [l[0]] ++ (flat l).drop ((l.length - n + 1) * 32)), Asr.row w.heap.size 33 32 (1 + (l.length - (l.length - n + 1))) (flat [l[0]] ++ (flat l).drop ((l.length - n + 1) * 32))] HH.out (by kernel_rfl) (by kernel_rfl) rfl ?_ ?_
      · refine eachD_cons ?_ (eachD_cons ?_ (eachD_cons ?_ (eachD_cons ?_ (eachD_cons ?_ (eachD_cons ?_ (eachD_cons ?_ (eachD_cons ?_ (eachD_cons ?_ (eachD_cons ?_ (eachD_cons ?_ (eachD_cons ?_ (eachD_cons ?_ (eachD_nil)))))))))))))
        · intro a_ w1 hI hF hS
          have e0 : a_.eval (.tmp 0) = (.slice (some a) l.length cap) := (hF.2.2 0 (notDst_of (by kernel_rfl))).trans rfl
          refine wantD (by rfl) ?_
          exact op_val rfl (ex_move rfl w1) e0
        · intro a_ w1 hI hF hS
          have e21 : a_.eval (.tmp 21) = (.slice (some a) l.length cap) := hS ⟨0, .data⟩ (by simp) rfl _ rfl
          refine wantD (by rfl) ?_
          exact op_val rfl (ex_index E24 (j := 0) e21 rfl rfl (by omega) w1) rfl
        · intro a_ w1 hI hF hS
          have e22 : a_.eval (.tmp 22) = (.pointer (some (a.add (0 * 32)))) := hS ⟨1, .data⟩ (by simp) rfl _ rfl
          refine wantD (by rfl) ?_
          exact op_val rfl (ex_load_agg (t := 33) (sz := 32) e22 Try.underlying33 rfl (by kernel_rfl) (Arr.len l[0]) ((show Ids w1 _ l from hI.1.sl HL.out).get 0 (by omega))) rfl
        · intro a_ w1 hI hF hS
          have e23 : a_.eval (.tmp 23) = (l[0]).val := hS ⟨2, .data⟩ (by simp) rfl _ rfl
          refine wantD (by rfl) ?_
          obtain ⟨v_, w_, hr_, hb_, hA_⟩ := ex_buildArr (ρ := a_.eval) E24 [l[0]] (parts := #[(0, .tmp 23)]) (n := 1) rfl (by simp [e23]) (by decide) w1; exact op_new rfl hr_ hb_ (hA_ _ hI.2.size)
        · intro a_ w1 hI hF hS
          have e0 : a_.eval (.tmp 0) = (.slice (some a) l.length cap) := (hF.2.2 0 (notDst_of (by kernel_rfl))).trans rfl
          refine wantD (by rfl) ?_
          exact op_val rfl (ex_move rfl w1) e0
        · intro a_ w1 hI hF hS
          have e0 : a_.eval (.tmp 0) = (.slice (some a) l.length cap) := (hF.2.2 0 (notDst_of (by kernel_rfl))).trans rfl
          refine wantD (by rfl) ?_
          exact op_val rfl (ex_move rfl w1) e0
        · intro a_ w1 hI hF hS
          have e26 : a_.eval (.tmp 26) = (.slice (some a) l.length cap) := hS ⟨5, .data⟩ (by simp) rfl _ rfl
          refine wantD (by rfl) ?_
          exact op_val rfl (ex_len Try.underlying24 e26 w1) rfl
        · intro a_ w1 hI hF hS
          have e1 : a_.eval (.tmp 1) = (.int .i64 n) := (hF.2.2 1 (notDst_of (by kernel_rfl))).trans rfl
          refine wantD (by rfl) ?_
          exact op_val rfl (ex_move rfl w1) e1
        · intro a_ w1 hI hF hS
          have e27 : a_.eval (.tmp 27) = (.int .i64 l.length) := hS ⟨6, .data⟩ (by simp) rfl _ rfl
          have e28 : a_.eval (.tmp 28) = (.int .i64 n) := hS ⟨7, .data⟩ (by simp) rfl _ rfl
          refine wantD (by rfl) ?_
          exact op_val rfl (ex_arith rfl e27 e28 (IntWalk.i64_in _ (by simp only [arithI]; omega)) w1) rfl
        · intro a_ w1 hI hF hS
          have e29 : a_.eval (.tmp 29) = (.int .i64 (l.length - n)) := hS ⟨8, .data⟩ (by simp) rfl _ rfl
          refine wantD (by rfl) ?_
          exact op_val rfl (ex_arith rfl e29 rfl (IntWalk.i64_in _ (by simp only [arithI]; omega)) w1) rfl
        · intro a_ w1 hI hF hS
          have e25 : a_.eval (.tmp 25) = (.slice (some a) l.length cap) := hS ⟨4, .data⟩ (by simp) rfl _ rfl
          have e30 : a_.eval (.tmp 30) = (.int .i64 (l.length - n + 1)) := hS ⟨9, .data⟩ (by simp) rfl _ rfl
          refine wantD (by rfl) ?_
          exact op_val rfl (ex_slice_from E24 (j := l.length - n + 1) e25 e30 (by omega) (by omega) w1) rfl
        · intro a_ w1 hI hF hS
          have e24 : (Asr.full w.heap.size 33 32 1 (flat [l[0]])).p (a_.eval (.tmp 24)) w1 := hS ⟨3, .data⟩ (by simp) rfl _ rfl
          have e31 : a_.eval (.tmp 31) = (.slice (if cap = l.length - n + 1 then some a else (some a).map (·.add ((l.length - n + 1) * 32))) (l.length - (l.length - n + 1)) (cap - (l.length - n + 1))) := hS ⟨10, .data⟩ (by simp) rfl _ rfl
          refine wantD (by rfl) ?_
          obtain ⟨v_, w_, hr_, hb_, hA_⟩ := ex_append_full (ρ := a_.eval) E24 e24 (m := l.length - (l.length - n + 1)) (by rw [e31]; exact (hI.1.sl HL.out).drop (by omega)) (by rw [flat_drop]; exact flat_cell1 _) (by omega) hI.2.size (s := .tmp 24) (y := .tmp 31) rfl rfl; exact op_new rfl hr_ hb_ hA_
        · intro a_ w1 hI hF hS
          have e32 : (Asr.row w.heap.size 33 32 (1 + (l.length - (l.length - n + 1))) (flat [l[0]] ++ (flat l).drop ((l.length - n + 1) * 32))).p (a_.eval (.tmp 32)) w1 := hS ⟨11, .data⟩ (by simp) rfl _ rfl
          refine wantD (by rfl) ?_
          exact op_val rfl (ex_assign rfl w1) e32
      intro wq hq_ hb_
      intro v0_ h0_ v1_ h1_ v2_ h2_ v3_ h3_ v4_ h4_ v5_ h5_ v6_ h6_ v7_ h7_ v8_ h8_ v9_ h9_ v10_ h10_ v11_ h11_ v12_ h12_
      have q_ : v0_ = (.slice (some a) l.length cap) := h0_; clear h0_; subst q_
      have q_ : v1_ = (.pointer (some (a.add (0 * 32)))) := h1_; clear h1_; subst q_
      have q_ : v2_ = (l[0]).val := h2_; clear h2_; subst q_
      have K3 := hid h3_; clear h3_
      have q_ : v4_ = (.slice (some a) l.length cap) := h4_; clear h4_; subst q_
      have q_ : v5_ = (.slice (some a) l.length cap) := h5_; clear h5_; subst q_
      have q_ : v6_ = (.int .i64 l.length) := h6_; clear h6_; subst q_
      have q_ : v7_ = (.int .i64 n) := h7_; clear h7_; subst q_
      have q_ : v8_ = (.int .i64 (l.length - n)) := h8_; clear h8_; subst q_
      have q_ : v9_ = (.int .i64 (l.length - n + 1)) := h9_; clear h9_; subst q_
      have q_ : v10_ = (.slice (if cap = l.length - n + 1 then some a else (some a).map (·.add ((l.length - n + 1) * 32))) (l.length - (l.length - n + 1)) (cap - (l.length - n + 1))) := h10_; clear h10_; subst q_
      have K11 := hid h11_; clear h11_
      have K12 := hid h12_; clear h12_
      simp only [endD, putsD, Act.put, List.setIfInBounds_toArray, List.set_cons_succ, List.set_cons_zero]
      have HQ := hid hq_; clear hq_
      have HB_ := hid hb_; clear hb_
      go_wp2
      have h0 := K12.out
      obtain ⟨ao2, cap2, rfl⟩ := row_shape h0
      go_ret
      have e : 1 + (l.length - (l.length - n + 1)) = (cutL l n).length := by
        unfold cutL; rw [if_neg hle, if_neg h1', List.length_append, List.length_take, List.length_drop]; omega
      have e2 : flat [l[0]] ++ (flat l).drop ((l.length - n + 1) * 32) = flat (cutL l n) := by
        unfold cutL; rw [if_neg hle, if_neg h1', flat_drop, ← flat_append, take_one (by omega)]
      rw [e, e2] at h0
      exact ⟨_, _, by rw [← e]; rfl, h0, HB_.out⟩
end Go.Proofs.Ytohdkmgnnncpkaa

/- Cut of the reference; Trim of both. Condition: lists of at most 2^42 identities. -/
namespace Go.Proofs.Ytohdkmgnnncpkaa
open Go.RowKit
def RetIdsE (E : TypeId) (w : World) (l : List Id) (k : Int) (e : Ending) (w' : World) : Prop :=
  ∃ ao cap, e = .returned (.tuple #[.slice ao l.length cap, .int .i64 k]) ∧ w'.ownsRow w.heap.size E 32 (.slice ao l.length cap) l.length (flat l) ∧ Below w.heap.size w w'
/-- The error of Trim, and its list. -/
def trimE (l : List Id) (m : Int) : Int := if m < 1 ∨ 20 < m then 2 else if 1000 < l.length then 9 else 0
def trimV (l : List Id) (m : Int) : List Id := if trimE l m = 0 then cutL l m.toNat else []
theorem retIdsE_nil {w w' : World} {E : TypeId} {k : Int} (hb : Below w.heap.size w w') : RetIdsE E w [] k (.returned (.tuple #[.slice none 0 0, .int .i64 k])) w' := ⟨_, _, rfl, World.ownsRow_nil _ _ _ _, hb⟩
theorem RetIdsE.mk {E : TypeId} {w w' : World} {l : List Id} {k : Int} {ao : Option Addr} {n cap : Nat} (h : w'.ownsRow w.heap.size E 32 (.slice ao l.length cap) l.length (flat l) ∧ Below w.heap.size w w') (hn : n = l.length) : RetIdsE E w l k (.returned (.tuple #[.slice ao n cap, .int .i64 k])) w' := by
  subst hn; exact ⟨_, _, rfl, h⟩
set_option maxHeartbeats 400000 in
theorem Trim_any (w : World) (v : Value) (l : List Id) (hl : Ids w v l) (hn : l.length * 32 ≤ 140737488355328) (m : Int) :
    Calls Try.prog 12 #[v, .int .i64 m] w (RetIdsE 33 w (trimV l m) (trimE l m)) := by
  obtain ⟨ao, cap, rfl, hc⟩ := hl.shape
  have HL := hid hl
  clear hl
  by_cases h1 : m < 1
  · have e1 : trimE l m = 2 := by unfold trimE; rw [if_pos (.inl h1)]
    have e2 : trimV l m = [] := by unfold trimV; rw [e1]; rfl
    rw [e1, e2]
    go_enter Try.func12, Try.ntmps12
    go_wp2
    go_ret2
    exact retIdsE_nil (Below.refl _ _)
  by_cases h2 : 20 < m
  · have e1 : trimE l m = 2 := by unfold trimE; rw [if_pos (.inr h2)]
    have e2 : trimV l m = [] := by unfold trimV; rw [e1]; rfl
    rw [e1, e2]
    go_enter Try.func12, Try.ntmps12
    go_wp2
    go_ret2
    exact retIdsE_nil (Below.refl _ _)
  by_cases h3 : 1000 < l.length
  · have e1 : trimE l m = 9 := by unfold trimE; rw [if_neg (by omega), if_pos h3]
    have e2 : trimV l m = [] := by unfold trimV; rw [e1]; rfl
    rw [e1, e2]
    go_enter Try.func12, Try.ntmps12
    go_wp2
    go_ret2
    exact retIdsE_nil (Below.refl _ _)
  have e1 : trimE l m = 0 := by unfold trimE; rw [if_neg (by omega), if_neg h3]
  have e2 : trimV l m = cutL l m.toNat := by unfold trimV; rw [e1]; rfl
  rw [e1, e2]
  obtain ⟨n, rfl⟩ : ∃ n : Nat, m = n := ⟨m.toNat, by omega⟩
  go_enter Try.func12, Try.ntmps12
  go_wp2_with (go_at_call 29; refine (trim_any w _ l HL.out hn n (by omega)).mono ?_; rintro e w' ⟨ao', cap', rfl, hr⟩; have HR := hid hr; clear hr)
  go_ret2
  exact RetIdsE.mk HR.out rfl
end Go.Proofs.Ytohdkmgnnncpkaa

/- IsTrimmed; the example of the references' laws. Condition: lists of at most 2^42 identities. -/
namespace Go.Proofs.Ytohdkmgnnncpkaa
open Go.RowKit
def isTrimB (s l : List Id) : Bool := s == l || (decide (0 < s.length) && s == cutL l s.length)
set_option maxHeartbeats 400000 in
theorem isTrimmed_any (w : World) (v1 v2 : Value) (s l : List Id) (h1 : Ids w v1 s) (h2 : Ids w v2 l) (hs : s.length ≤ 9223372036854775807) (hn : l.length * 32 ≤ 140737488355328) :
    Calls Try.prog 22 #[v1, v2] w (RetB w (isTrimB s l)) := by
  obtain ⟨a1, c1, rfl, _⟩ := h1.shape
  obtain ⟨a2, c2, rfl, _⟩ := h2.shape
  have H1 := hid h1
  have H2 := hid h2
  clear h1 h2
  by_cases heq : s = l
  · have e : isTrimB s l = true := by unfold isTrimB; rw [beq_yes heq]; rfl
    have e2 : (s == l) = true := beq_yes heq
    have E2 := hid e2
    rw [e]
    clear heq e e2
    go_enter Try.func22, Try.ntmps22
    go_wp2_with (go_at_call 34; refine (equal_any w _ _ s l H1.out H2.out hs).mono ?_; rw [E2.out]; rintro e w' ⟨rfl, hb⟩; have HB := hid hb; clear hb)
    go_ret
    exact RetB.mk rfl HB.out
  · have e2 : (s == l) = false := beq_no heq
    have E2 := hid e2
    by_cases h0 : 0 < s.length
    · have e : isTrimB s l = (s == cutL l s.length) := by unfold isTrimB; rw [e2, decide_eq_true h0]; simp
      rw [e]
      clear heq e e2
      go_enter Try.func22, Try.ntmps22
      go_wp2_with (first
        | (go_at_call 34; (with_reducible refine (equal_any w _ _ s l H1.out H2.out hs).mono ?_); rw [E2.out]; rintro e w' ⟨rfl, hb⟩; have HB := hid hb; clear hb)
        | (go_at_call 29; (with_reducible refine (trim_any _ _ l (H2.out.below HB.out) hn s.length (by omega)).mono ?_); rintro e w2 ⟨ao2, cap2, rfl, hr⟩; have HR := hid hr; clear hr)
        | (go_at_call 34; (with_reducible refine (equal_any _ _ _ s _ ((H1.out.below HB.out).below HR.out.2) (Sl.of_row HR.out.1) hs).mono ?_); rintro e w3 ⟨rfl, hb⟩; have HC := hid hb; clear hb))
      go_ret
      have h1 := HB.out
      have h2 := HR.out.2
      have h3 := HC.out
      exact RetB.mk rfl (h1.trans ((h2.mono h1.size).trans (h3.mono (Nat.le_trans h1.size h2.size))))
    · have e : isTrimB s l = false := by unfold isTrimB; rw [e2, decide_eq_false h0]; rfl
      have h0' : s.length = 0 := by omega
      rw [e]
      clear heq e e2
      have E0 := hid h0'
      clear h0'
      go_enter Try.func22, Try.ntmps22
      go_wp2_with (go_at_call 34; refine (equal_any w _ _ s l H1.out H2.out hs).mono ?_; rw [E2.out]; rintro e w' ⟨rfl, hb⟩; have HB := hid hb; clear hb)
      go_ret
      exact RetB.mk rfl HB.out
/-- The identity that begins with the byte k. -/
def idN (k : UInt8) : Id := ⟨k :: List.replicate 31 0, by simp⟩
theorem Z33 : (Try.prog.info? 33).map (·.zero) = some (some (Arr.zero 32).val) := by kernel_rfl
theorem S33 : (Try.prog.info? 33).map (·.size) = some 32 := by kernel_rfl
theorem B22 : Body Try.prog 22 := ⟨_, _, Try.func22, rfl, rfl⟩
theorem trim_known (w : World) (v : Value) (h : Sl w v 32 3 (flat [idN 1, idN 2, idN 3])) : Calls Try.prog 12 #[v, .int .i64 2] w (RetIdsE 33 w [idN 1, idN 3] 0) :=
  Trim_any w v [idN 1, idN 2, idN 3] h (by simp) 2
set_option maxRecDepth 100000 in
set_option maxHeartbeats 1000000 in
theorem known_any (w : World) : Calls Try.prog 11 #[] w (RetB w true) := by
  have HH := hid (Holds.init w)
  have b1 : ∀ w, (Instr.build 33 #[(0, .int .u8 1)]).run Try.prog w = .ok (idN 1).val w := fun _ => by kernel_rfl
  have b2 : ∀ w, (Instr.build 33 #[(0, .int .u8 2)]).run Try.prog w = .ok (idN 2).val w := fun _ => by kernel_rfl
  have b3 : ∀ w, (Instr.build 33 #[(0, .int .u8 3)]).run Try.prog w = .ok (idN 3).val w := fun _ => by kernel_rfl
  have B1 := hid b1
  have B2 := hid b2
  have B3 := hid b3
  clear b1 b2 b3
  go_enter Try.func11, Try.ntmps11
  go_wp2_with (first
    | ((with_reducible apply wpList_build (parts := #[(0, .const (.int .u8 1))]) (v := (idN 1).val)); (exact B1.out); rfl)
    | ((with_reducible apply wpList_build (parts := #[(0, .const (.int .u8 2))]) (v := (idN 2).val)); (exact B2.out); rfl)
    | ((with_reducible apply wpList_build (parts := #[(0, .const (.int .u8 3))]) (v := (idN 3).val)); (exact B3.out); rfl)
    | ((with_reducible apply wpList_allocA Z33 HH.out); rfl; (intro g1 w1 hq; have H1 := hid hq; clear hq HH))
    | ((with_reducible apply wpList_allocA Z33 H1.out); rfl; (intro g2 w2 hq; have H2 := hid hq; clear hq H1))
    | ((with_reducible apply wpList_allocA Z33 H2.out); rfl; (intro g3 w3 hq; have HH := hid hq; clear hq H2))
    | ((with_reducible apply wpList_buildArr E24 [idN 1, idN 2, idN 3] HH.out); rfl; rfl; decide; rfl; (intro g_ w_ hq_; clear HH; have HH := hid hq_; clear hq_))
    | (go_at_call 12; (with_reducible refine (trim_known _ _ HH.out.sl0).mono ?_); rintro e w2 ⟨ao2, cap2, rfl, hr⟩; (have hq_ := HH.out.addRow hr.2 hr.1); clear HH; have HH := hid hq_; clear hq_ hr)
    | ((with_reducible apply wpList_loadA A33 HH.out); rfl; (first | exact .here | exact .there .here | exact .there (.there .here) | exact .there (.there (.there .here)) | exact .there (.there (.there (.there .here))) | exact .there (.there (.there (.there (.there .here))))); rfl)
    | ((with_reducible apply wpList_allocA Z33 HH.out); go_must ((rfl; (intro g_ w_ hq_; clear HH; have HH := hid hq_; clear hq_))))
    | ((with_reducible apply wpList_storeA S33 HH.out); go_must ((rfl; rfl; (first | exact .here | exact .there .here | exact .there (.there .here) | exact .there (.there (.there .here)) | exact .there (.there (.there (.there .here))) | exact .there (.there (.there (.there (.there .here))))); rfl; (intro w_ hq_; clear HH; have HH := hid hq_; clear hq_))))
    | ((with_reducible apply wpList_boxA (e := 33) HH.out); rfl; rfl; (intro g_ w_ hq_; clear HH; have HH := hid hq_; clear hq_)))
  obtain ⟨ad2, c3, e3⟩ := HH.out.sl0.some (by simp)
  have e4 : ao2 = some ad2 := by cases e3; rfl
  subst e4
  refine wp_region_R [Asr.is (.int .i64 0), Asr.is (.bool true), Asr.is (.bool true), Asr.is (.slice (some ad2) 2 cap2), Asr.is (.int .i64 2), Asr.is (.bool true), Asr.is (.bool true), Asr.is (.bool true), Asr.is (.slice (some ad2) 2 cap2), Asr.is (.pointer (some (ad2.add (0 * 32)))), Asr.is (idN 1).val, Asr.is (idN 1).val, Asr.is (.bool true), Asr.is (.bool true), Asr.is (.bool true), Asr.is (.slice (some ad2) 2 cap2), Asr.is (.pointer (some (ad2.add (1 * 32)))), Asr.is (idN 3).val, Asr.is (idN 3).val, Asr.is (.bool true), Asr.is (.bool true), Asr.is (.bool true), Asr.is (idN 1).val, Asr.is (idN 3).val, Asr.full w2.heap.size 33 32 2 (flat [idN 1, idN 3]), Asr.is (idN 1).val, Asr.is (idN 2).val, Asr.is (idN 3).val, Asr.full w2.heap.size 33 32 3 (flat [idN 1, idN 2, idN 3]), Asr.is (.bool true), Asr.is (.bool true), Asr.is (.bool true)] HH.out (by kernel_rfl) (by kernel_rfl) rfl ?_ ?_
  · refine eachD_cons ?_ (eachD_cons ?_ (eachD_cons ?_ (eachD_cons ?_ (eachD_cons ?_ (eachD_cons ?_ (eachD_cons ?_ (eachD_cons ?_ (eachD_cons ?_ (eachD_cons ?_ (eachD_cons ?_ (eachD_cons ?_ (eachD_cons ?_ (eachD_cons ?_ (eachD_cons ?_ (eachD_cons ?_ (eachD_cons ?_ (eachD_cons ?_ (eachD_cons ?_ (eachD_cons ?_ (eachD_cons ?_ (eachD_cons ?_ (eachD_cons ?_ (eachD_cons ?_ (eachD_cons ?_ (eachD_cons ?_ (eachD_cons ?_ (eachD_cons ?_ (eachD_cons ?_ (eachD_cons ?_ (eachD_cons ?_ (eachD_cons ?_ (eachD_nil))))))))))))))))))))))))))))))))
    · intro a_ w1 hI hF hS
      have e5 : a_.eval (.tmp 5) = (.int .i64 0) := (hF.2.2 5 (notDst_of (by kernel_rfl))).trans rfl
      refine wantD (by rfl) ?_
      exact op_val rfl (ex_move rfl w1) e5
    · intro a_ w1 hI hF hS
      have e17 : a_.eval (.tmp 17) = (.int .i64 0) := hS ⟨0, .data⟩ (by simp) rfl _ rfl
      refine wantD (by rfl) ?_
      exact op_val rfl (ex_cmp (b := true) rfl e17 (by rfl) (by rfl) w1) rfl
    · intro a_ w1 hI hF hS
      have e18 : a_.eval (.tmp 18) = (.bool true) := hS ⟨1, .data⟩ (by simp) rfl _ rfl
      refine wantD (by rfl) ?_
      exact op_val rfl (ex_move rfl w1) e18
    · intro a_ w1 hI hF hS
      have e4 : a_.eval (.tmp 4) = (.slice (some ad2) 2 cap2) := (hF.2.2 4 (notDst_of (by kernel_rfl))).trans rfl
      have e19 : a_.eval (.tmp 19) = (.bool true) := hS ⟨2, .guard⟩ (by simp) rfl _ rfl
      refine wantD (wanted_of (j := 2) (b := true) (want := true) (by rfl) (by rfl) e19 rfl) ?_
      exact op_val rfl (ex_move rfl w1) e4
    · intro a_ w1 hI hF hS
      have e20 : a_.eval (.tmp 20) = (.slice (some ad2) 2 cap2) := hS ⟨3, .data⟩ (by simp) rfl _ rfl
      have e19 : a_.eval (.tmp 19) = (.bool true) := hS ⟨2, .guard⟩ (by simp) rfl _ rfl
      refine wantD (wanted_of (j := 2) (b := true) (want := true) (by rfl) (by rfl) e19 rfl) ?_
      exact op_val rfl (ex_len Try.underlying24 e20 w1) rfl
    · intro a_ w1 hI hF hS
      have e21 : a_.eval (.tmp 21) = (.int .i64 2) := hS ⟨4, .data⟩ (by simp) rfl _ rfl
      have e19 : a_.eval (.tmp 19) = (.bool true) := hS ⟨2, .guard⟩ (by simp) rfl _ rfl
      refine wantD (wanted_of (j := 2) (b := true) (want := true) (by rfl) (by rfl) e19 rfl) ?_
      exact op_val rfl (ex_cmp (b := true) rfl e21 (by rfl) (by rfl) w1) rfl
    · intro a_ w1 hI hF hS
      have e19 : a_.eval (.tmp 19) = (.bool true) := hS ⟨2, .data⟩ (by simp) rfl _ rfl
      have e22 : a_.eval (.tmp 22) = (.bool true) := hS ⟨5, .data⟩ (by simp) rfl _ rfl
      refine wantD (by rfl) ?_
      exact op_val rfl (ex_pick e19 rfl w1) e22
    · intro a_ w1 hI hF hS
      have e23 : a_.eval (.tmp 23) = (.bool true) := hS ⟨6, .data⟩ (by simp) rfl _ rfl
      refine wantD (by rfl) ?_
      exact op_val rfl (ex_move rfl w1) e23
    · intro a_ w1 hI hF hS
      have e4 : a_.eval (.tmp 4) = (.slice (some ad2) 2 cap2) := (hF.2.2 4 (notDst_of (by kernel_rfl))).trans rfl
      have e24 : a_.eval (.tmp 24) = (.bool true) := hS ⟨7, .guard⟩ (by simp) rfl _ rfl
      refine wantD (wanted_of (j := 7) (b := true) (want := true) (by rfl) (by rfl) e24 rfl) ?_
      exact op_val rfl (ex_move rfl w1) e4
    · intro a_ w1 hI hF hS
      have e25 : a_.eval (.tmp 25) = (.slice (some ad2) 2 cap2) := hS ⟨8, .data⟩ (by simp) rfl _ rfl
      have e24 : a_.eval (.tmp 24) = (.bool true) := hS ⟨7, .guard⟩ (by simp) rfl _ rfl
      refine wantD (wanted_of (j := 7) (b := true) (want := true) (by rfl) (by rfl) e24 rfl) ?_
      exact op_val rfl (ex_index E24 (j := 0) e25 rfl rfl (by omega) w1) rfl
    · intro a_ w1 hI hF hS
      have e26 : a_.eval (.tmp 26) = (.pointer (some (ad2.add (0 * 32)))) := hS ⟨9, .data⟩ (by simp) rfl _ rfl
      have e24 : a_.eval (.tmp 24) = (.bool true) := hS ⟨7, .guard⟩ (by simp) rfl _ rfl
      refine wantD (wanted_of (j := 7) (b := true) (want := true) (by rfl) (by rfl) e24 rfl) ?_
      exact op_val rfl (ex_load_agg (t := 33) (sz := 32) e26 Try.underlying33 rfl (by kernel_rfl) (Arr.len (idN 1)) (Ids.get (l := [idN 1, idN 3]) (cap := cap2) hI.1.sl0 0 (by decide))) rfl
    · intro a_ w1 hI hF hS
      have e1 : a_.eval (.tmp 1) = (.pointer (some ⟨g1, 0, none⟩)) := (hF.2.2 1 (notDst_of (by kernel_rfl))).trans rfl
      have e24 : a_.eval (.tmp 24) = (.bool true) := hS ⟨7, .guard⟩ (by simp) rfl _ rfl
      refine wantD (wanted_of (j := 7) (b := true) (want := true) (by rfl) (by rfl) e24 rfl) ?_
      exact op_val rfl (ex_loadA A33 hI.1 e1 (by first | exact .here | exact .there .here | exact .there (.there .here))) rfl
    · intro a_ w1 hI hF hS
      have e27 : a_.eval (.tmp 27) = (idN 1).val := hS ⟨10, .data⟩ (by simp) rfl _ rfl
      have e28 : a_.eval (.tmp 28) = (idN 1).val := hS ⟨11, .data⟩ (by simp) rfl _ rfl
      have e24 : a_.eval (.tmp 24) = (.bool true) := hS ⟨7, .guard⟩ (by simp) rfl _ rfl
      refine wantD (wanted_of (j := 7) (b := true) (want := true) (by rfl) (by rfl) e24 rfl) ?_
      exact op_val rfl (ex_eql_arr Try.underlying33 Try.underlying5 (by kernel_rfl) (by kernel_rfl) e27 e28 w1) (congrArg Value.bool (beq_yes rfl))
    · intro a_ w1 hI hF hS
      have e24 : a_.eval (.tmp 24) = (.bool true) := hS ⟨7, .data⟩ (by simp) rfl _ rfl
      have e29 : a_.eval (.tmp 29) = (.bool true) := hS ⟨12, .data⟩ (by simp) rfl _ rfl
      refine wantD (by rfl) ?_
      exact op_val rfl (ex_pick e24 rfl w1) e29
    · intro a_ w1 hI hF hS
      have e30 : a_.eval (.tmp 30) = (.bool true) := hS ⟨13, .data⟩ (by simp) rfl _ rfl
      refine wantD (by rfl) ?_
      exact op_val rfl (ex_move rfl w1) e30
    · intro a_ w1 hI hF hS
      have e4 : a_.eval (.tmp 4) = (.slice (some ad2) 2 cap2) := (hF.2.2 4 (notDst_of (by kernel_rfl))).trans rfl
      have e31 : a_.eval (.tmp 31) = (.bool true) := hS ⟨14, .guard⟩ (by simp) rfl _ rfl
      refine wantD (wanted_of (j := 14) (b := true) (want := true) (by rfl) (by rfl) e31 rfl) ?_
      exact op_val rfl (ex_move rfl w1) e4
    · intro a_ w1 hI hF hS
      have e32 : a_.eval (.tmp 32) = (.slice (some ad2) 2 cap2) := hS ⟨15, .data⟩ (by simp) rfl _ rfl
      have e31 : a_.eval (.tmp 31) = (.bool true) := hS ⟨14, .guard⟩ (by simp) rfl _ rfl
      refine wantD (wanted_of (j := 14) (b := true) (want := true) (by rfl) (by rfl) e31 rfl) ?_
      exact op_val rfl (ex_index E24 (j := 1) e32 rfl rfl (by omega) w1) rfl
    · intro a_ w1 hI hF hS
      have e33 : a_.eval (.tmp 33) = (.pointer (some (ad2.add (1 * 32)))) := hS ⟨16, .data⟩ (by simp) rfl _ rfl
      have e31 : a_.eval (.tmp 31) = (.bool true) := hS ⟨14, .guard⟩ (by simp) rfl _ rfl
      refine wantD (wanted_of (j := 14) (b := true) (want := true) (by rfl) (by rfl) e31 rfl) ?_
      exact op_val rfl (ex_load_agg (t := 33) (sz := 32) e33 Try.underlying33 rfl (by kernel_rfl) (Arr.len (idN 3)) (Ids.get (l := [idN 1, idN 3]) (cap := cap2) hI.1.sl0 1 (by decide))) rfl
    · intro a_ w1 hI hF hS
      have e3 : a_.eval (.tmp 3) = (.pointer (some ⟨g3, 0, none⟩)) := (hF.2.2 3 (notDst_of (by kernel_rfl))).trans rfl
      have e31 : a_.eval (.tmp 31) = (.bool true) := hS ⟨14, .guard⟩ (by simp) rfl _ rfl
      refine wantD (wanted_of (j := 14) (b := true) (want := true) (by rfl) (by rfl) e31 rfl) ?_
      exact op_val rfl (ex_loadA A33 hI.1 e3 (by first | exact .here | exact .there .here | exact .there (.there .here))) rfl
    · intro a_ w1 hI hF hS
      have e34 : a_.eval (.tmp 34) = (idN 3).val := hS ⟨17, .data⟩ (by simp) rfl _ rfl
      have e35 : a_.eval (.tmp 35) = (idN 3).val := hS ⟨18, .data⟩ (by simp) rfl _ rfl
      have e31 : a_.eval (.tmp 31) = (.bool true) := hS ⟨14, .guard⟩ (by simp) rfl _ rfl
      refine wantD (wanted_of (j := 14) (b := true) (want := true) (by rfl) (by rfl) e31 rfl) ?_
      exact op_val rfl (ex_eql_arr Try.underlying33 Try.underlying5 (by kernel_rfl) (by kernel_rfl) e34 e35 w1) (congrArg Value.bool (beq_yes rfl))
    · intro a_ w1 hI hF hS
      have e31 : a_.eval (.tmp 31) = (.bool true) := hS ⟨14, .data⟩ (by simp) rfl _ rfl
      have e36 : a_.eval (.tmp 36) = (.bool true) := hS ⟨19, .data⟩ (by simp) rfl _ rfl
      refine wantD (by rfl) ?_
      exact op_val rfl (ex_pick e31 rfl w1) e36
    · intro a_ w1 hI hF hS
      have e37 : a_.eval (.tmp 37) = (.bool true) := hS ⟨20, .data⟩ (by simp) rfl _ rfl
      refine wantD (by rfl) ?_
      exact op_val rfl (ex_move rfl w1) e37
    · intro a_ w1 hI hF hS
      have e1 : a_.eval (.tmp 1) = (.pointer (some ⟨g1, 0, none⟩)) := (hF.2.2 1 (notDst_of (by kernel_rfl))).trans rfl
      have e38 : a_.eval (.tmp 38) = (.bool true) := hS ⟨21, .guard⟩ (by simp) rfl _ rfl
      refine wantD (wanted_of (j := 21) (b := true) (want := true) (by rfl) (by rfl) e38 rfl) ?_
      exact op_val rfl (ex_loadA A33 hI.1 e1 (by first | exact .here | exact .there .here | exact .there (.there .here))) rfl
    · intro a_ w1 hI hF hS
      have e3 : a_.eval (.tmp 3) = (.pointer (some ⟨g3, 0, none⟩)) := (hF.2.2 3 (notDst_of (by kernel_rfl))).trans rfl
      have e38 : a_.eval (.tmp 38) = (.bool true) := hS ⟨21, .guard⟩ (by simp) rfl _ rfl
      refine wantD (wanted_of (j := 21) (b := true) (want := true) (by rfl) (by rfl) e38 rfl) ?_
      exact op_val rfl (ex_loadA A33 hI.1 e3 (by first | exact .here | exact .there .here | exact .there (.there .here))) rfl
    · intro a_ w1 hI hF hS
      have e39 : a_.eval (.tmp 39) = (idN 1).val := hS ⟨22, .data⟩ (by simp) rfl _ rfl
      have e40 : a_.eval (.tmp 40) = (idN 3).val := hS ⟨23, .data⟩ (by simp) rfl _ rfl
      have e38 : a_.eval (.tmp 38) = (.bool true) := hS ⟨21, .guard⟩ (by simp) rfl _ rfl
      refine wantD (wanted_of (j := 21) (b := true) (want := true) (by rfl) (by rfl) e38 rfl) ?_
      obtain ⟨v_, w_, hr_, hb_, hA_⟩ := ex_buildArr (ρ := a_.eval) E24 [idN 1, idN 3] (parts := #[(0, .tmp 39), (1, .tmp 40)]) (n := 2) rfl (by simp [e39, e40]) (by decide) w1; exact op_new rfl hr_ hb_ (hA_ _ hI.2.size)
    · intro a_ w1 hI hF hS
      have e1 : a_.eval (.tmp 1) = (.pointer (some ⟨g1, 0, none⟩)) := (hF.2.2 1 (notDst_of (by kernel_rfl))).trans rfl
      have e38 : a_.eval (.tmp 38) = (.bool true) := hS ⟨21, .guard⟩ (by simp) rfl _ rfl
      refine wantD (wanted_of (j := 21) (b := true) (want := true) (by rfl) (by rfl) e38 rfl) ?_
      exact op_val rfl (ex_loadA A33 hI.1 e1 (by first | exact .here | exact .there .here | exact .there (.there .here))) rfl
    · intro a_ w1 hI hF hS
      have e2 : a_.eval (.tmp 2) = (.pointer (some ⟨g2, 0, none⟩)) := (hF.2.2 2 (notDst_of (by kernel_rfl))).trans rfl
      have e38 : a_.eval (.tmp 38) = (.bool true) := hS ⟨21, .guard⟩ (by simp) rfl _ rfl
      refine wantD (wanted_of (j := 21) (b := true) (want := true) (by rfl) (by rfl) e38 rfl) ?_
      exact op_val rfl (ex_loadA A33 hI.1 e2 (by first | exact .here | exact .there .here | exact .there (.there .here))) rfl
    · intro a_ w1 hI hF hS
      have e3 : a_.eval (.tmp 3) = (.pointer (some ⟨g3, 0, none⟩)) := (hF.2.2 3 (notDst_of (by kernel_rfl))).trans rfl
      have e38 : a_.eval (.tmp 38) = (.bool true) := hS ⟨21, .guard⟩ (by simp) rfl _ rfl
      refine wantD (wanted_of (j := 21) (b := true) (want := true) (by rfl) (by rfl) e38 rfl) ?_
      exact op_val rfl (ex_loadA A33 hI.1 e3 (by first | exact .here | exact .there .here | exact .there (.there .here))) rfl
    · intro a_ w1 hI hF hS
      have e42 : a_.eval (.tmp 42) = (idN 1).val := hS ⟨25, .data⟩ (by simp) rfl _ rfl
      have e43 : a_.eval (.tmp 43) = (idN 2).val := hS ⟨26, .data⟩ (by simp) rfl _ rfl
      have e44 : a_.eval (.tmp 44) = (idN 3).val := hS ⟨27, .data⟩ (by simp) rfl _ rfl
      have e38 : a_.eval (.tmp 38) = (.bool true) := hS ⟨21, .guard⟩ (by simp) rfl _ rfl
      refine wantD (wanted_of (j := 21) (b := true) (want := true) (by rfl) (by rfl) e38 rfl) ?_
      obtain ⟨v_, w_, hr_, hb_, hA_⟩ := ex_buildArr (ρ := a_.eval) E24 [idN 1, idN 2, idN 3] (parts := #[(0, .tmp 42), (1, .tmp 43), (2, .tmp 44)]) (n := 3) rfl (by simp [e42, e43, e44]) (by decide) w1; exact op_new rfl hr_ hb_ (hA_ _ hI.2.size)
    · intro a_ w1 hI hF hS
      have e41 : (Asr.full w2.heap.size 33 32 2 (flat [idN 1, idN 3])).p (a_.eval (.tmp 41)) w1 := hS ⟨24, .data⟩ (by simp) rfl _ rfl
      have e45 : (Asr.full w2.heap.size 33 32 3 (flat [idN 1, idN 2, idN 3])).p (a_.eval (.tmp 45)) w1 := hS ⟨28, .data⟩ (by simp) rfl _ rfl
      have e38 : a_.eval (.tmp 38) = (.bool true) := hS ⟨21, .chain⟩ (by simp) rfl _ rfl
      refine wantD (wanted_of (j := 21) (b := true) (want := true) (by rfl) (by rfl) e38 rfl) ?_
      exact op_call B22 rfl ((isTrimmed_any w1 _ _ [idN 1, idN 3] [idN 1, idN 2, idN 3] (Sl.of_row e41.2) (Sl.of_row e45.2) (by simp) (by simp)).mono fun e w' ⟨he, hb⟩ => ⟨_, he, hb, congrArg Value.bool (show isTrimB [idN 1, idN 3] [idN 1, idN 2, idN 3] = true by decide)⟩)
    · intro a_ w1 hI hF hS
      have e38 : a_.eval (.tmp 38) = (.bool true) := hS ⟨21, .data⟩ (by simp) rfl _ rfl
      have e46 : a_.eval (.tmp 46) = (.bool true) := hS ⟨29, .data⟩ (by simp) rfl _ rfl
      refine wantD (by rfl) ?_
      exact op_val rfl (ex_pick e38 rfl w1) e46
    · intro a_ w1 hI hF hS
      have e47 : a_.eval (.tmp 47) = (.bool true) := hS ⟨30, .data⟩ (by simp) rfl _ rfl
      refine wantD (by rfl) ?_
      exact op_val rfl (ex_assign rfl w1) e47
  intro wq hq_ hb_
  intro v0_ h0_ v1_ h1_ v2_ h2_ v3_ h3_ v4_ h4_ v5_ h5_ v6_ h6_ v7_ h7_ v8_ h8_ v9_ h9_ v10_ h10_ v11_ h11_ v12_ h12_ v13_ h13_ v14_ h14_ v15_ h15_ v16_ h16_ v17_ h17_ v18_ h18_ v19_ h19_ v20_ h20_ v21_ h21_ v22_ h22_ v23_ h23_ v24_ h24_ v25_ h25_ v26_ h26_ v27_ h27_ v28_ h28_ v29_ h29_ v30_ h30_ v31_ h31_
  have q_ : v0_ = (.int .i64 0) := h0_; clear h0_; subst q_
  have q_ : v1_ = (.bool true) := h1_; clear h1_; subst q_
  have q_ : v2_ = (.bool true) := h2_; clear h2_; subst q_
  have q_ : v3_ = (.slice (some ad2) 2 cap2) := h3_; clear h3_; subst q_
  have q_ : v4_ = (.int .i64 2) := h4_; clear h4_; subst q_
  have q_ : v5_ = (.bool true) := h5_; clear h5_; subst q_
  have q_ : v6_ = (.bool true) := h6_; clear h6_; subst q_
  have q_ : v7_ = (.bool true) := h7_; clear h7_; subst q_
  have q_ : v8_ = (.slice (some ad2) 2 cap2) := h8_; clear h8_; subst q_
  have q_ : v9_ = (.pointer (some (ad2.add (0 * 32)))) := h9_; clear h9_; subst q_
  have q_ : v10_ = (idN 1).val := h10_; clear h10_; subst q_
  have q_ : v11_ = (idN 1).val := h11_; clear h11_; subst q_
  have q_ : v12_ = (.bool true) := h12_; clear h12_; subst q_
  have q_ : v13_ = (.bool true) := h13_; clear h13_; subst q_
  have q_ : v14_ = (.bool true) := h14_; clear h14_; subst q_
  have q_ : v15_ = (.slice (some ad2) 2 cap2) := h15_; clear h15_; subst q_
  have q_ : v16_ = (.pointer (some (ad2.add (1 * 32)))) := h16_; clear h16_; subst q_
  have q_ : v17_ = (idN 3).val := h17_; clear h17_; subst q_
  have q_ : v18_ = (idN 3).val := h18_; clear h18_; subst q_
  have q_ : v19_ = (.bool true) := h19_; clear h19_; subst q_
  have q_ : v20_ = (.bool true) := h20_; clear h20_; subst q_
  have q_ : v21_ = (.bool true) := h21_; clear h21_; subst q_
  have q_ : v22_ = (idN 1).val := h22_; clear h22_; subst q_
  have q_ : v23_ = (idN 3).val := h23_; clear h23_; subst q_
  have K24 := hid h24_; clear h24_
  have q_ : v25_ = (idN 1).val := h25_; clear h25_; subst q_
  have q_ : v26_ = (idN 2).val := h26_; clear h26_; subst q_
  have q_ : v27_ = (idN 3).val := h27_; clear h27_; subst q_
  have K28 := hid h28_; clear h28_
  have q_ : v29_ = (.bool true) := h29_; clear h29_; subst q_
  have q_ : v30_ = (.bool true) := h30_; clear h30_; subst q_
  have q_ : v31_ = (.bool true) := h31_; clear h31_; subst q_
  simp only [endD, putsD, Act.put, List.setIfInBounds_toArray, List.set_cons_succ, List.set_cons_zero]
  have HQ := hid hq_; clear hq_
  have HB_ := hid hb_; clear hb_
  go_wp2
  go_ret
  exact RetB.mk rfl HQ.out.below
end Go.Proofs.Ytohdkmgnnncpkaa

/- A map of the call's own, from arrays of bytes to true: a set. Over any program. No condition. -/
namespace Go.Proofs.Ytohdkmgnnncpkaa
open Go.RowKit Go.ChangeShapes Go.WideShapes
section
variable {P : Program} {k e : TypeId} {n : Nat}
variable {t b : TypeId}
section
variable {w w0 : World} {S : List Nat} {bs bs' : List (Nat × Obj)} {rows : List Row} {ops : Array Oper} {rest : List Oper} {a : Act} {Q : Exit → Act → World → Prop} {dst : Option Tmp} {ty : TypeId} {pos : String} {after : Array Edge} {guard : Option (Nat × Bool)}
end
end
/-- A call that turned one block of its caller's, and laid new ones. -/
structure Turned (g : Nat) (o : Obj) (w w' : World) : Prop where
  os : w'.os = w.os
  tape : w'.tape = w.tape
  output : w'.output = w.output
  size : w.heap.size ≤ w'.heap.size
  blk : w'.heap[g]? = some o
  old : ∀ k, k < w.heap.size → k ≠ g → w'.heap[k]? = w.heap[k]?
theorem Holds.turned {w w' : World} {g : Nat} {o : Obj} {bs : List (Nat × Obj)} {rows : List Row} (h : Holds w [g] bs rows w') (ho : Own bs g o) : Turned g o w w' :=
  ⟨h.os, h.tape, h.output, h.size, h.at ho, fun k hk hne => h.old k hk (by simpa using hne)⟩
end Go.Proofs.Ytohdkmgnnncpkaa

/- add, Check of the references. Condition: lists whose length is an int. -/
namespace Go.Proofs.Ytohdkmgnnncpkaa
open Go.RowKit
abbrev Id0 : Id := Arr.zero 32
theorem BZ (w : World) : (Instr.build 33 #[]).run Try.prog w = .ok Id0.val w := by kernel_rfl
def RetI (w : World) (n : Int) (e : Ending) (w' : World) : Prop := e = .returned (.int .i64 n) ∧ Below w.heap.size w w'
theorem RetI.mk {w w' : World} {b c : Int} (h : b = c) (hb : Below w.heap.size w w') : RetI w c (.returned (.int .i64 b)) w' := ⟨by rw [h], hb⟩
end Go.Proofs.Ytohdkmgnnncpkaa

namespace Go.Proofs.Ytohdkmgnnncpkaa
open Go.RowKit
/-- What Index answers. -/
def RetIx (w : World) (l : List Id) (x : Id) (e : Ending) (w' : World) : Prop := ∃ n : Int, e = .returned (.int .i64 n) ∧ decide (n ≥ 0) = l.contains x ∧ Below w.heap.size w w'
theorem RetIx.mk {w w' : World} {l : List Id} {x : Id} {n : Int} (h : decide (n ≥ 0) = l.contains x) (hb : Below w.heap.size w w') : RetIx w l x (.returned (.int .i64 n)) w' := ⟨n, rfl, h, hb⟩
def RetP (w : World) (l : List Id) (e : Ending) (w' : World) : Prop := e = .returned (.tuple #[(l.getLastD Id0).val, .bool (decide (0 < l.length))]) ∧ Below w.heap.size w w'
set_option maxHeartbeats 400000 in
theorem parent_any (w : World) (v : Value) (l : List Id) (hl : Ids w v l) (hn : l.length ≤ 9223372036854775807) :
    Calls Try.prog 19 #[v] w (RetP w l) := by
  obtain ⟨ao, cap, rfl, _⟩ := hl.shape
  have HH := hid (Holds.init w)
  have HL := hid hl
  clear hl
  by_cases h0 : l.length = 0
  · have e : l = [] := List.eq_nil_of_length_eq_zero h0
    subst e
    go_enter Try.func19, Try.ntmps19
    go_wp2_with (first
      | ((with_reducible apply wpList_build (parts := #[]) (v := Id0.val)); (exact BZ); rfl)
      | ((with_reducible apply wpList_loadA A33 HH.out); rfl; (first | exact .here | exact .there .here | exact .there (.there .here) | exact .there (.there (.there .here)) | exact .there (.there (.there (.there .here))) | exact .there (.there (.there (.there (.there .here))))); rfl)
      | ((with_reducible apply wpList_allocA Z33 HH.out); go_must ((rfl; (intro g_ w_ hq_; clear HH; have HH := hid hq_; clear hq_))))
      | ((with_reducible apply wpList_storeA S33 HH.out); go_must ((rfl; rfl; (first | exact .here | exact .there .here | exact .there (.there .here) | exact .there (.there (.there .here)) | exact .there (.there (.there (.there .here))) | exact .there (.there (.there (.there (.there .here))))); rfl; (intro w_ hq_; clear HH; have HH := hid hq_; clear hq_))))
      | ((with_reducible apply wpList_boxA (e := 33) HH.out); rfl; rfl; (intro g_ w_ hq_; clear HH; have HH := hid hq_; clear hq_)))
    refine bodyPost_ret (res2 rfl (resA A33 HH.out (by rfl) .here) (by rfl)) rfl ?_
    exact ⟨rfl, HH.out.below⟩
  · obtain ⟨a, cap', e⟩ := HL.out.some (by omega)
    cases e
    have hx : l.length - 1 < l.length := by omega
    have e0 : ((l.length : Int) - 1) = ((l.length - 1 : Nat) : Int) := by omega
    have e1 : l.getLastD Id0 = l[l.length - 1] := by rw [List.getLastD_eq_getLast?, List.getLast?_eq_getElem?, List.getElem?_eq_getElem hx]; rfl
    have E1 := hid e1
    clear e1
    go_enter Try.func19, Try.ntmps19
    go_wp2_with (first
      | ((with_reducible apply wpList_load_agg A33 (Arr.len l[l.length - 1]) (Ids.get (HH.out.sl HL.out) (l.length - 1) hx)); rfl; rfl)
      | ((with_reducible apply wpList_loadA A33 HH.out); rfl; (first | exact .here | exact .there .here | exact .there (.there .here) | exact .there (.there (.there .here)) | exact .there (.there (.there (.there .here))) | exact .there (.there (.there (.there (.there .here))))); rfl)
      | ((with_reducible apply wpList_allocA Z33 HH.out); go_must ((rfl; (intro g_ w_ hq_; clear HH; have HH := hid hq_; clear hq_))))
      | ((with_reducible apply wpList_storeA S33 HH.out); go_must ((rfl; rfl; (first | exact .here | exact .there .here | exact .there (.there .here) | exact .there (.there (.there .here)) | exact .there (.there (.there (.there .here))) | exact .there (.there (.there (.there (.there .here))))); rfl; (intro w_ hq_; clear HH; have HH := hid hq_; clear hq_))))
      | ((with_reducible apply wpList_boxA (e := 33) HH.out); rfl; rfl; (intro g_ w_ hq_; clear HH; have HH := hid hq_; clear hq_)))
    refine bodyPost_ret (res2 rfl (resA A33 HH.out (by rfl) .here) (by rfl)) rfl ?_
    exact ⟨by rw [E1.out, decide_eq_true (by omega)]; rfl, HH.out.below⟩
end Go.Proofs.Ytohdkmgnnncpkaa

