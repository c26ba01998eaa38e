/- load of sha256, schedule of the reference. Condition: the bytes are 64 at least. -/
import Derived.KernelRfl
import Derived.WalkKit
import Derived.WalkSpells
import Derived.WalkLawsBesides
import Derived.Deep.QuietTactic
import Derived.BigQuiet
import Derived.Outline
import Derived.ProofKit
import Derived.SizedLaws
import Derived.Deep.Slices
import Derived.Test.YtgkfopodhikckaaProg
set_option linter.unusedSimpArgs false
set_option linter.unusedVariables false
/- General facts, over any program: arrays of bytes as values, slices that are read, the memory that a call owns. No condition. -/
namespace Go.Proofs.Ytgkfopodhikckaa
open Go.RowKit

theorem hid {p : Prop} (h : p) : RowKit.Hid p := h

/-- A byte as a cell. -/
def byt (b : UInt8) : Value := .int .u8 (b.toNat : Int)
/-- An array of n bytes. -/
abbrev Arr (n : Nat) := {l : List UInt8 // l.length = n}
def Arr.cells {n : Nat} (x : Arr n) : List Value := x.1.map byt
def Arr.val {n : Nat} (x : Arr n) : Value := .agg x.cells.toArray
theorem Arr.len {n : Nat} (x : Arr n) : x.cells.length = n := by simp [Arr.cells, x.2]
def flat {n : Nat} (l : List (Arr n)) : List Value := l.flatMap Arr.cells
theorem flat_cons {n : Nat} (x : Arr n) (l : List (Arr n)) : flat (x :: l) = x.cells ++ flat l := rfl
theorem flat_append {n : Nat} (l m : List (Arr n)) : flat (l ++ m) = flat l ++ flat m := by simp [flat]
theorem flat_len {n : Nat} (l : List (Arr n)) : (flat l).length = l.length * n := by
  induction l with
  | nil => simp [flat]
  | cons x l ih => rw [flat_cons, List.length_append, Arr.len, ih, List.length_cons, Nat.add_mul]; omega
theorem flat_get {n : Nat} (l : List (Arr n)) : ∀ (k : Nat) (h : k < l.length) (j : Nat), j < n → (flat l)[k * n + j]? = (l[k]).cells[j]? := by
  induction l with
  | nil => intro k h; simp at h
  | cons x l ih =>
    intro k h j hj
    rw [flat_cons]
    cases k with
    | zero => rw [List.getElem?_append_left (by rw [Arr.len]; omega)]; simp
    | succ k =>
      rw [List.getElem?_append_right (by rw [Arr.len, Nat.add_mul]; omega), Arr.len]
      rw [show (k + 1) * n + j - n = k * n + j by rw [Nat.add_mul]; omega, ih k (by simpa using h) j hj]
      rfl
theorem flat_take {n : Nat} (l : List (Arr n)) (k : Nat) : (flat l).take (k * n) = flat (l.take k) := by
  induction l generalizing k with
  | nil => simp [flat]
  | cons x l ih =>
    cases k with
    | zero => simp [flat]
    | succ k =>
      rw [flat_cons, List.take_succ_cons, flat_cons, ← ih, List.take_append, Arr.len]
      rw [List.take_of_length_le (by rw [Arr.len, Nat.add_mul]; omega), show (k + 1) * n - n = k * n by rw [Nat.add_mul]; omega]
theorem cells_one {n : Nat} (x : Arr n) : ∀ u ∈ x.cells, u.oneCell' = true := by
  intro u hu; simp only [Arr.cells, List.mem_map] at hu; obtain ⟨b, _, rfl⟩ := hu; rfl
theorem flat_cell1 {n : Nat} (l : List (Arr n)) : ∀ u ∈ flat l, u.oneCell' = true := by
  intro u hu; simp only [flat, List.mem_flatMap] at hu; obtain ⟨x, _, hx⟩ := hu; exact cells_one x u hx
def Arr.zero (n : Nat) : Arr n := ⟨List.replicate n 0, by simp⟩

/-- The slice value v has n elements of sz cells each, which hold cs. -/
def Sl (w : World) (v : Value) (sz n : Nat) (cs : List Value) : Prop :=
  ∃ ao cap, v = .slice ao n cap ∧ n ≤ cap ∧ cs.length = n * sz ∧ ∀ j u, cs[j]? = some u → ∃ a, ao = some a ∧ w.cell? (a.add j) = some u
theorem Sl.keep {w w' : World} {v : Value} {sz n : Nat} {cs : List Value} (h : Sl w v sz n cs) (hk : ∀ k, k < w.heap.size → w'.heap[k]? = w.heap[k]?) : Sl w' v sz n cs := by
  obtain ⟨ao, cap, rfl, hle, hl, hc⟩ := h
  refine ⟨ao, cap, rfl, hle, hl, fun j u hu => ?_⟩
  obtain ⟨a, ha, hcell⟩ := hc j u hu
  exact ⟨a, ha, (World.cell?_of_block (hk _ (World.block_lt_of_cell? w _ hcell))).trans hcell⟩
theorem Sl.below {w w' : World} {v : Value} {sz n : Nat} {cs : List Value} (h : Sl w v sz n cs) (hb : Below w.heap.size w w') : Sl w' v sz n cs := h.keep hb.block
theorem Sl.nil (w : World) (sz : Nat) : Sl w (.slice none 0 0) sz 0 [] := ⟨none, 0, rfl, Nat.le_refl _, by simp, by simp⟩
theorem Sl.of_row {w : World} {base : Nat} {e : TypeId} {sz n : Nat} {v : Value} {xs : List Value} (h : w.ownsRow base e sz v n xs) : Sl w v sz n xs := by
  rcases h.2 with ⟨rfl, rfl⟩ | ⟨g, cap, cur, rfl, hb, hg, hn, hm, hs, ht⟩
  · have : xs = [] := List.eq_nil_of_length_eq_zero (by simpa using h.1)
    subst this
    exact Sl.nil w sz
  · refine ⟨_, _, rfl, hn, h.1, fun j u hu => ⟨_, rfl, ?_⟩⟩
    have := h.cells (g := g) rfl j u hu
    exact this
/-- The elements from k on. -/
theorem Sl.cell {w : World} {a : Addr} {cap sz n : Nat} {cs : List Value} (h : Sl w (.slice (some a) n cap) sz n cs) (j : Nat) (u : Value) (hu : cs[j]? = some u) : w.cell? (a.add j) = some u := by
  obtain ⟨ao, cap', e, _, hl, hc⟩ := h
  simp only [Value.slice.injEq] at e
  obtain ⟨rfl, _, _⟩ := e
  obtain ⟨a', e, hh⟩ := hc j u hu
  cases e
  exact hh
theorem Sl.some {w : World} {v : Value} {sz n : Nat} {cs : List Value} (h : Sl w v sz n cs) (h0 : 0 < n * sz) : ∃ a cap, v = .slice (some a) n cap := by
  obtain ⟨ao, cap, rfl, _, hl, hc⟩ := h
  have : 0 < cs.length := by omega
  obtain ⟨a, rfl, _⟩ := hc 0 cs[0] (by simp [this])
  exact ⟨a, cap, rfl⟩

theorem Sl.shape {w : World} {v : Value} {sz n : Nat} {cs : List Value} (h : Sl w v sz n cs) : ∃ ao cap, v = .slice ao n cap ∧ n ≤ cap := by
  obtain ⟨ao, cap, rfl, hle, _⟩ := h
  exact ⟨ao, cap, rfl, hle⟩
theorem Sl.cap {w : World} {ao : Option Addr} {sz n m cap : Nat} {cs : List Value} (h : Sl w (.slice ao m cap) sz n cs) : m = n ∧ n ≤ cap := by
  obtain ⟨ao', cap', e, hle, _⟩ := h
  simp only [Value.slice.injEq] at e
  omega

structure Row where
  v : Value
  e : TypeId
  sz : Nat
  n : Nat
  xs : List Value
/-- Since the world w0 the blocks of w0 have not turned (but for those in S); the call's own blocks bs and rows are as said, and lie apart. -/
structure Holds (w0 : World) (S : List Nat) (bs : List (Nat × Obj)) (rows : List Row) (w : World) : Prop where
  os : w.os = w0.os
  tape : w.tape = w0.tape
  output : w.output = w0.output
  size : w0.heap.size ≤ w.heap.size
  old : ∀ k, k < w0.heap.size → k ∉ S → w.heap[k]? = w0.heap[k]?
  blk : ∀ p ∈ bs, w.heap[p.1]? = some p.2
  frs : ∀ p ∈ bs, w0.heap.size ≤ p.1 ∨ p.1 ∈ S
  row : ∀ r ∈ rows, w.ownsRow w0.heap.size r.e r.sz r.v r.n r.xs
  sep : (bs.map (·.1) ++ rows.filterMap (·.v.ownBlock)).Nodup
  inS : ∀ k ∈ S, k < w0.heap.size
theorem Holds.init (w : World) : Holds w [] [] [] w := ⟨rfl, rfl, rfl, Nat.le_refl _, fun _ _ _ => rfl, by simp, by simp, by simp, by simp, by simp⟩
theorem Holds.below {w0 w : World} {bs : List (Nat × Obj)} {rows : List Row} (h : Holds w0 [] bs rows w) : Below w0.heap.size w0 w :=
  ⟨h.os, h.tape, h.output, h.size, fun k hk => h.old k hk (by simp)⟩
section
variable {w0 w w' : World} {S : List Nat} {bs : List (Nat × Obj)} {rows : List Row}
theorem Holds.lt (h : Holds w0 S bs rows w) {p : Nat × Obj} (hp : p ∈ bs) : p.1 < w.heap.size := (Array.getElem?_eq_some_iff.1 (h.blk p hp)).1
theorem Holds.rowlt (h : Holds w0 S bs rows w) {r : Row} (hr : r ∈ rows) : ∀ k, r.v.ownBlock = some k → w0.heap.size ≤ k ∧ k < w.heap.size := (h.row r hr).lt
/-- Whatever leaves all blocks of w alone. -/
theorem Holds.grow (h : Holds w0 S bs rows w) (hb : Below w.heap.size w w') : Holds w0 S bs rows w' :=
  ⟨hb.os.trans h.os, hb.tape.trans h.tape, hb.output.trans h.output, Nat.le_trans h.size hb.size,
   fun k hk hn => (hb.block k (Nat.lt_of_lt_of_le hk h.size)).trans (h.old k hk hn),
   fun p hp => (hb.block _ (h.lt hp)).trans (h.blk p hp), h.frs,
   fun r hr => by
     refine ⟨(h.row r hr).1, ?_⟩
     rcases (h.row r hr).2 with hn | ⟨g, cap, cur, hv, hg, hh, rest⟩
     · exact .inl hn
     · exact .inr ⟨g, cap, cur, hv, hg, (hb.block g (Array.getElem?_eq_some_iff.1 hh).1).trans hh, rest⟩,
   h.sep, h.inS⟩
theorem below_drew (w : World) : Below w.heap.size w w.drew := (Below.refl _ _).drew
theorem Holds.drew (h : Holds w0 S bs rows w) : Holds w0 S bs rows w.drew := h.grow (below_drew w)
theorem below_alloc (w : World) (o : Obj) : Below w.heap.size w (w.alloc o) := (Below.refl _ _).alloc (Nat.le_refl _) o
/-- A new block of the call's own. -/
theorem Holds.alloc (h : Holds w0 S bs rows w) (o : Obj) : Holds w0 S ((w.heap.size, o) :: bs) rows (w.alloc o) := by
  have hg := h.grow (below_alloc w o)
  refine ⟨hg.os, hg.tape, hg.output, hg.size, hg.old, ?_, ?_, hg.row, ?_, h.inS⟩
  · intro p hp
    rcases List.mem_cons.1 hp with rfl | hp
    · exact heap_alloc_new w o
    · exact hg.blk p hp
  · intro p hp
    rcases List.mem_cons.1 hp with rfl | hp
    · exact .inl h.size
    · exact h.frs p hp
  · rw [List.map_cons, List.cons_append, List.nodup_cons]
    refine ⟨fun hm => ?_, h.sep⟩
    rcases List.mem_append.1 hm with hm | hm
    · obtain ⟨p, hp, e⟩ := List.mem_map.1 hm
      have := h.lt hp
      simp only at e; omega
    · obtain ⟨r, hr, e⟩ := List.mem_filterMap.1 hm
      have := (h.rowlt hr _ e).2
      simp only at this; omega
/-- Some block of the call's own turns. -/
theorem Holds.set (h : Holds w0 S bs rows w) {g : Nat} {o o' : Obj} {pre post : List (Nat × Obj)} (hbs : bs = pre ++ (g, o) :: post)
    (hw : w'.heap[g]? = some o') (hos : w'.os = w.os) (ht : w'.tape = w.tape) (hout : w'.output = w.output) (hsz : w.heap.size ≤ w'.heap.size)
    (hk : ∀ k, k < w.heap.size → k ≠ g → w'.heap[k]? = w.heap[k]?) : Holds w0 S (pre ++ (g, o') :: post) rows w' := by
  subst hbs
  have hnd := h.sep
  have hgm : (g, o) ∈ pre ++ (g, o) :: post := by simp
  have hne : ∀ p ∈ pre ++ post, p.1 ≠ g := by
    intro p hp e
    have h1 : ((pre ++ (g, o) :: post).map (·.1)).Nodup := (List.nodup_append.1 hnd).1
    rw [List.map_append, List.map_cons] at h1
    have h2 := List.nodup_append.1 h1
    rcases List.mem_append.1 hp with hp | hp
    · exact h2.2.2 p.1 (List.mem_map.2 ⟨p, hp, rfl⟩) g (by simp) e
    · exact (List.nodup_cons.1 h2.2.1).1 (by rw [← e]; exact List.mem_map.2 ⟨p, hp, rfl⟩)
  have hrne : ∀ r ∈ rows, ∀ k, r.v.ownBlock = some k → k ≠ g := by
    intro r hr k hkb e
    subst e
    exact (List.nodup_append.1 hnd).2.2 k (List.mem_map.2 ⟨_, hgm, rfl⟩) k (List.mem_filterMap.2 ⟨r, hr, hkb⟩) rfl
  refine ⟨hos.trans h.os, ht.trans h.tape, hout.trans h.output, Nat.le_trans h.size hsz, ?_, ?_, ?_, ?_, ?_, h.inS⟩
  · intro k hk' hn
    have hkg : k ≠ g := by
      intro e; subst e
      rcases h.frs _ hgm with hf | hf
      · simp only at hf; omega
      · exact hn hf
    exact (hk k (Nat.lt_of_lt_of_le hk' h.size) hkg).trans (h.old k hk' hn)
  · intro p hp
    have : p ∈ pre ++ post ∨ p = (g, o') := by
      rcases List.mem_append.1 hp with hp | hp
      · exact .inl (List.mem_append.2 (.inl hp))
      · rcases List.mem_cons.1 hp with hp | hp
        · exact .inr hp
        · exact .inl (List.mem_append.2 (.inr hp))
    rcases this with hp' | rfl
    · have hp2 : p ∈ pre ++ (g, o) :: post := by
        rcases List.mem_append.1 hp' with a | a
        · exact List.mem_append.2 (.inl a)
        · exact List.mem_append.2 (.inr (List.mem_cons_of_mem _ a))
      exact (hk _ (h.lt hp2) (hne p hp')).trans (h.blk p hp2)
    · exact hw
  · intro p hp
    rcases List.mem_append.1 hp with a | a
    · exact h.frs p (List.mem_append.2 (.inl a))
    · rcases List.mem_cons.1 a with rfl | a
      · exact h.frs (g, o) hgm
      · exact h.frs p (List.mem_append.2 (.inr (List.mem_cons_of_mem _ a)))
  · intro r hr
    refine ⟨(h.row r hr).1, ?_⟩
    rcases (h.row r hr).2 with hn | ⟨b, cap, cur, hv, hb, hh, rest⟩
    · exact .inl hn
    · refine .inr ⟨b, cap, cur, hv, hb, ?_, rest⟩
      rw [hk b (Array.getElem?_eq_some_iff.1 hh).1 (hrne r hr b (by rw [hv]; rfl))]
      exact hh
  · simpa using hnd
/-- A row that a callee handed back. -/
theorem Holds.addRow (h : Holds w0 S bs rows w) (hb : Below w.heap.size w w') {e : TypeId} {sz n : Nat} {v : Value} {xs : List Value} (hr : w'.ownsRow w.heap.size e sz v n xs) :
    Holds w0 S bs (⟨v, e, sz, n, xs⟩ :: rows) w' := by
  have hg := h.grow hb
  refine ⟨hg.os, hg.tape, hg.output, hg.size, hg.old, hg.blk, hg.frs, ?_, ?_, h.inS⟩
  · intro r hr'
    rcases List.mem_cons.1 hr' with rfl | hr'
    · refine ⟨hr.1, ?_⟩
      rcases hr.2 with hn | ⟨g, cap, cur, hv, hgb, rest⟩
      · exact .inl hn
      · exact .inr ⟨g, cap, cur, hv, Nat.le_trans h.size hgb, rest⟩
    · exact hg.row r hr'
  · cases hv : v.ownBlock with
    | none => simpa [List.filterMap_cons, hv] using h.sep
    | some g =>
      have hlt := (hr.lt g hv).1
      simp only [List.filterMap_cons, hv]
      have h1 := h.sep
      rw [List.nodup_append] at h1 ⊢
      refine ⟨h1.1, List.nodup_cons.2 ⟨fun hm => ?_, h1.2.1⟩, ?_⟩
      · obtain ⟨r, hr', e⟩ := List.mem_filterMap.1 hm
        have := (h.rowlt hr' _ e).2
        omega
      · intro a ha b hb' e
        subst e
        rcases List.mem_cons.1 hb' with rfl | hb'
        · obtain ⟨p, hp, e⟩ := List.mem_map.1 ha
          have := h.lt hp
          omega
        · exact h1.2.2 a ha a hb' rfl
/-- The first row turns, by a law that ends in 'grownBy'. -/
theorem Holds.grownRow {r : Row} (h : Holds w0 S bs (r :: rows) w) {v' : Value} {n' : Nat} {xs' : List Value} (hg : w.grownBy w' r.v.ownBlock)
    (hv : r.v.ownBlock = v'.ownBlock ∨ ∀ k, v'.ownBlock = some k → w.heap.size ≤ k) (ho : w'.ownsRow w0.heap.size r.e r.sz v' n' xs') : Holds w0 S bs (⟨v', r.e, r.sz, n', xs'⟩ :: rows) w' := by
  have hsep := h.sep
  have hrlt := h.rowlt (List.mem_cons_self)
  have hbne : ∀ p ∈ bs, r.v.ownBlock ≠ some p.1 := by
    intro p hp e
    exact (List.nodup_append.1 hsep).2.2 p.1 (List.mem_map.2 ⟨p, hp, rfl⟩) p.1 (List.mem_filterMap.2 ⟨r, by simp, e⟩) rfl
  have hrne : ∀ q ∈ rows, ∀ k, q.v.ownBlock = some k → r.v.ownBlock ≠ some k := by
    intro q hq k hk e
    have h2 := (List.nodup_append.1 hsep).2.1
    rw [List.filterMap_cons, e] at h2
    exact (List.nodup_cons.1 h2).1 (List.mem_filterMap.2 ⟨q, hq, hk⟩)
  refine ⟨hg.os.trans h.os, hg.tape.trans h.tape, hg.output.trans h.output, Nat.le_trans h.size hg.size, ?_, ?_, h.frs, ?_, ?_, h.inS⟩
  · intro k hk hn
    refine (hg.block k (Nat.lt_of_lt_of_le hk h.size) ?_).trans (h.old k hk hn)
    intro e
    have := (hrlt k e.symm).1
    omega
  · intro p hp
    exact (hg.block _ (h.lt hp) (fun e => hbne p hp e.symm)).trans (h.blk p hp)
  · intro q hq
    rcases List.mem_cons.1 hq with rfl | hq
    · exact ho
    · have hq' := h.row q (List.mem_cons_of_mem _ hq)
      refine ⟨hq'.1, ?_⟩
      rcases hq'.2 with hn | ⟨g, cap, cur, hv', hgb, hh, rest⟩
      · exact .inl hn
      · refine .inr ⟨g, cap, cur, hv', hgb, ?_, rest⟩
        rw [hg.block g (Array.getElem?_eq_some_iff.1 hh).1 (fun e => hrne q hq g (by rw [hv']; rfl) e.symm)]
        exact hh
  · have h0 : (bs.map (·.1) ++ rows.filterMap (·.v.ownBlock)).Nodup := by
      rw [List.filterMap_cons] at hsep
      split at hsep
      · exact hsep
      · rw [List.nodup_append] at hsep ⊢
        exact ⟨hsep.1, (List.nodup_cons.1 hsep.2.1).2, fun a ha b hb => hsep.2.2 a ha b (List.mem_cons_of_mem _ hb)⟩
    rw [List.filterMap_cons]
    cases hvo : v'.ownBlock with
    | none => exact h0
    | some g =>
      simp only
      rw [List.nodup_append] at h0 ⊢
      have key : (∀ p ∈ bs, p.1 ≠ g) ∧ (∀ q ∈ rows, q.v.ownBlock ≠ some g) := by
        rcases hv with e | e
        · rw [hvo] at e
          exact ⟨fun p hp e' => hbne p hp (by rw [e, e']), fun q hq e' => hrne q hq g e' e⟩
        · have := e g hvo
          refine ⟨fun p hp e' => ?_, fun q hq e' => ?_⟩
          · have := h.lt hp; omega
          · have := (h.rowlt (List.mem_cons_of_mem _ hq) g e').2; omega
      refine ⟨h0.1, List.nodup_cons.2 ⟨fun hm => ?_, h0.2.1⟩, ?_⟩
      · obtain ⟨q, hq, e⟩ := List.mem_filterMap.1 hm
        exact key.2 q hq e
      · intro a ha b hb e
        subst e
        rcases List.mem_cons.1 hb with rfl | hb
        · obtain ⟨p, hp, e⟩ := List.mem_map.1 ha
          exact key.1 p hp e
        · exact h0.2.2 a ha a hb rfl
theorem Holds.dropRow {r : Row} (h : Holds w0 S bs (r :: rows) w) : Holds w0 S bs rows w := by
  refine ⟨h.os, h.tape, h.output, h.size, h.old, h.blk, h.frs, fun q hq => h.row q (List.mem_cons_of_mem _ hq), ?_, h.inS⟩
  have hsep := h.sep
  rw [List.filterMap_cons] at hsep
  split at hsep
  · exact hsep
  · rw [List.nodup_append] at hsep ⊢
    exact ⟨hsep.1, (List.nodup_cons.1 hsep.2.1).2, fun a ha b hb => hsep.2.2 a ha b (List.mem_cons_of_mem _ hb)⟩
theorem Holds.swap {r q : Row} (h : Holds w0 S bs (r :: q :: rows) w) : Holds w0 S bs (q :: r :: rows) w := by
  refine ⟨h.os, h.tape, h.output, h.size, h.old, h.blk, h.frs, fun x hx => h.row x ?_, ?_, h.inS⟩
  · simp only [List.mem_cons] at hx ⊢
    rcases hx with a | a | a
    · exact .inr (.inl a)
    · exact .inl a
    · exact .inr (.inr a)
  · exact (List.Perm.nodup_iff (List.Perm.append_left _ (List.Perm.filterMap _ (List.Perm.swap q r rows)))).1 h.sep
theorem Holds.dropSnd {r q : Row} (h : Holds w0 S bs (r :: q :: rows) w) : Holds w0 S bs (r :: rows) w := h.swap.dropRow
theorem Holds.dropBlk {p : Nat × Obj} (h : Holds w0 S (p :: bs) rows w) : Holds w0 S bs rows w := by
  refine ⟨h.os, h.tape, h.output, h.size, h.old, fun q hq => h.blk q (List.mem_cons_of_mem _ hq), fun q hq => h.frs q (List.mem_cons_of_mem _ hq), h.row, ?_, h.inS⟩
  have hsep := h.sep
  rw [List.map_cons, List.cons_append] at hsep
  exact (List.nodup_cons.1 hsep).2
/-- What was read in the first world reads so still. -/
theorem Holds.sl (h : Holds w0 [] bs rows w) {v : Value} {sz n : Nat} {cs : List Value} (hs : Sl w0 v sz n cs) : Sl w v sz n cs := hs.keep fun k hk => h.old k hk (by simp)
theorem Holds.slrow (h : Holds w0 S bs rows w) {r : Row} (hr : r ∈ rows) : Sl w r.v r.sz r.n r.xs := Sl.of_row (h.row r hr)
theorem Holds.sl0 {v : Value} {e : TypeId} {sz n : Nat} {xs : List Value} (h : Holds w0 S bs (⟨v, e, sz, n, xs⟩ :: rows) w) : Sl w v sz n xs := h.slrow List.mem_cons_self
theorem Holds.sl1 {r : Row} {v : Value} {e : TypeId} {sz n : Nat} {xs : List Value} (h : Holds w0 S bs (r :: ⟨v, e, sz, n, xs⟩ :: rows) w) : Sl w v sz n xs := h.slrow (List.mem_cons_of_mem _ List.mem_cons_self)
theorem Holds.own0 {v : Value} {e : TypeId} {sz n : Nat} {xs : List Value} (h : Holds w0 S bs (⟨v, e, sz, n, xs⟩ :: rows) w) : w.ownsRow w0.heap.size e sz v n xs := h.row _ List.mem_cons_self
end
end Go.Proofs.Ytgkfopodhikckaa

/- General facts, over any program: the operations on arrays of bytes, on slices of them and on the call's own memory. No condition. -/
namespace Go.Proofs.Ytgkfopodhikckaa
open Go.RowKit
section
variable {P : Program}

theorem wpList_ex {ops : Array Oper} {rest : List Oper} {o : Oper} {a : Act} {w w' : World} {v : Value} {Q : Exit → Act → World → Prop} (hg : Region.wanted o (yielded ops a.tmps) = true)
    (hr : (execOp a.eval o).run P w = .ok (.value v) w') (h : wpList P ops Q rest (a.put o.dst v) w') : wpList P ops Q (o :: rest) a w :=
  wpList_step fun K hK => by rw [if_pos hg]; unfold Oper.wp; rw [hr]; exact hK _ _ h
theorem wpList_exskip {ops : Array Oper} {rest : List Oper} {o : Oper} {a : Act} {w w' : World} {Q : Exit → Act → World → Prop} (hg : Region.wanted o (yielded ops a.tmps) = true)
    (hr : (execOp a.eval o).run P w = .ok .skip w') (h : wpList P ops Q rest (a.put o.dst undef) w') : wpList P ops Q (o :: rest) a w :=
  wpList_step fun K hK => by rw [if_pos hg]; unfold Oper.wp; rw [hr]; exact hK _ _ h
theorem wpQuiet_ex {ops : Array Oper} {rest : List Oper} {o : Oper} {a : Act} {C : World → Prop} {v : Value} {Q : Act → Prop} (hg : Region.wanted o (yielded ops a.tmps) = true)
    (hr : ∀ w, C w → (execOp a.eval o).run P w = .ok (.value v) w) (h : wpQuiet P ops C Q rest (a.put o.dst v)) : wpQuiet P ops C Q (o :: rest) a :=
  wpQuiet_step fun K hK => by
    rw [if_pos hg]
    exact ⟨v, fun w hw => by unfold Oper.quietAt; rw [hr w hw]; exact ⟨rfl, rfl⟩, hK _ h⟩
theorem wpQuiet_call {ops : Array Oper} {rest : List Oper} {o : Oper} {a : Act} {C : World → Prop} {v : Value} {f : FuncId} {args : Array Value} {Q : Act → Prop} (hg : Region.wanted o (yielded ops a.tmps) = true)
    (hr : ∀ w, (execOp a.eval o).run P w = .ok (.enter f args) w) (hc : ∀ w, C w → Calls P f args w fun e w' => e = .returned v ∧ C w')
    (h : wpQuiet P ops C Q rest (a.put o.dst v)) : wpQuiet P ops C Q (o :: rest) a :=
  wpQuiet_step fun K hK => by
    rw [if_pos hg]
    exact ⟨v, fun w hw => by unfold Oper.quietAt; rw [hr w]; exact ⟨rfl, hc w hw⟩, hK _ h⟩

/-- A struct's or an array's type. -/
def aggD : TypeDesc → Bool | .struct _ | .array _ _ => true | _ => false
theorem run_loadVar_agg {t : TypeId} {d : TypeDesc} (hu : P.underlying t = some d) (hd : aggD d = true) {sz : Nat}
    (hi : (P.info? t).map (·.size) = some sz) {ad : Addr} {cs : List Value} (hl : cs.length = sz) {w : World} (hc : ∀ j u, cs[j]? = some u → w.cell? (ad.add j) = some u) :
    (loadVar t ad).run P w = .ok (.agg cs.toArray) w := by
  have h1 : (isAgg t).run P w = .ok true w := by
    simp only [isAgg, Sem.run_bind, run_underlying hu, Result.andThen_ok]
    cases d <;> simp_all [aggD]
  have h2 : (sizeOf t).run P w = .ok sz w := by
    simp only [sizeOf, typeInfo, Sem.run_bind, run_program, Result.andThen_ok]
    cases hh : P.info? t with
    | none => rw [hh] at hi; simp at hi
    | some i => rw [hh] at hi; simp at hi; simp [hi]
  simp only [loadVar, Sem.run_bind, h1, Result.andThen_ok, if_true, h2]
  rw [← hl, run_loadCells_list w ad cs hc]
  rfl
theorem ex_load_agg {ρ : Operand → Value} {dst : Option Tmp} {t ty : TypeId} {x : Operand} {pos : String} {after : Array Edge} {guard : Option (Nat × Bool)} {ad : Addr} (hx : ρ x = .pointer (some ad))
    {d : TypeDesc} (hu : P.underlying t = some d) (hd : aggD d = true) {sz : Nat}
    (hi : (P.info? t).map (·.size) = some sz) {cs : List Value} (hl : cs.length = sz) {w : World} (hc : ∀ j u, cs[j]? = some u → w.cell? (ad.add j) = some u) :
    (execOp ρ { dst := dst, op := .load t x, type := ty, pos := pos, after := after, guard := guard }).run P w = .ok (.value (.agg cs.toArray)) w := by
  simp only [execOp, hx, Instr.loadAt, Instr.sureAddr, Sem.run_bind, Sem.run_pure, Result.andThen_ok, run_loadVar_agg hu hd hi hl hc]
theorem ex_load_one {ρ : Operand → Value} {dst : Option Tmp} {t ty : TypeId} {x : Operand} {pos : String} {after : Array Edge} {guard : Option (Nat × Bool)} {ad : Addr} (hx : ρ x = .pointer (some ad))
    {d : TypeDesc} (hu : P.underlying t = some d) (hd : aggD d = false) {v : Value} {w : World} (hc : w.cell? ad = some v) :
    (execOp ρ { dst := dst, op := .load t x, type := ty, pos := pos, after := after, guard := guard }).run P w = .ok (.value v) w := by
  have h1 : (isAgg t).run P w = .ok false w := by
    simp only [isAgg, Sem.run_bind, run_underlying hu, Result.andThen_ok]
    cases d <;> simp_all [aggD]
  simp only [execOp, hx, Instr.loadAt, Instr.sureAddr, Sem.run_bind, Sem.run_pure, Result.andThen_ok, loadVar, h1, Bool.false_eq_true, if_false, run_load, hc]

theorem eq_loop {e : TypeId} {d : Nat} {k : IntKind} (he : P.underlying e = some (.int k)) {w : World} {sz : Nat} (hsz : sz = 1) (xs ys : List UInt8) (hl : xs.length = ys.length) (cx cy : Array Value) (px : List UInt8) (py : List UInt8) (hp : px.length = py.length)
    (hx : cx = ((px ++ xs).map byt).toArray) (hy : cy = ((py ++ ys).map byt).toArray) :
    (forIn (m := Sem) (List.range' px.length xs.length) ((none, ()) : Option Bool × Unit) fun i _ => do
        let p ← part e cx (i * sz)
        let q ← part e cy (i * sz)
        let r ← Op.equalIn (d + 1) e p q
        if (!r) = true then pure (.done (some false, ())) else pure (.yield (none, ()))).run P w =
      .ok (if xs = ys then (none, ()) else (some false, ())) w := by
  subst hsz
  have hagg : ∀ w, (isAgg e).run P w = .ok false w := fun w => by simp [isAgg, run_underlying he]
  have hpart : ∀ (c : Array Value) (i : Nat) (v : Value) (w : World), c[i]? = some v → (part e c i).run P w = .ok v w := fun c i v w h => by
    simp only [part, Sem.run_bind, hagg, Result.andThen_ok, Bool.false_eq_true, if_false, h, Sem.run_pure]
  induction xs generalizing ys px py with
  | nil =>
    have : ys = [] := List.eq_nil_of_length_eq_zero (by simpa using hl.symm)
    subst this
    simp
  | cons x xs ih =>
    match ys, hl with
    | y :: ys, hl =>
      have h1 : cx[px.length]? = some (byt x) := by subst hx; simp
      have h2 : cy[px.length]? = some (byt y) := by subst hy; rw [hp]; simp
      have heq : ∀ w, (Op.equalIn (d + 1) e (byt x) (byt y)).run P w = .ok (x == y) w := fun w => by
        have := run_equalIn_int (P := P) w d e .u8 k (x.toNat : Int) (y.toNat : Int) he
        unfold byt
        rw [this]
        congr 1
        rw [Bool.eq_iff_iff, beq_iff_eq, beq_iff_eq]
        constructor
        · intro h; exact UInt8.toNat_inj.1 (by omega)
        · intro h; rw [h]
      rw [List.length_cons, List.range'_succ]
      simp only [List.forIn_cons, Sem.run_bind, Nat.mul_one, hpart _ _ _ _ h1, hpart _ _ _ _ h2, Result.andThen_ok, heq, Sem.run_ite, Result.andThen_ite, Sem.run_pure]
      by_cases hxy : x = y
      · subst hxy
        have := ih ys (by simpa using hl) (px ++ [x]) (py ++ [x]) (by simpa using hp) (by subst hx; simp) (by subst hy; simp)
        simp only [Nat.mul_one, List.length_append, List.length_singleton] at this
        simp only [beq_self_eq_true, Bool.not_true, Bool.false_eq_true, if_false]
        rw [this]
        simp
      · have : (x == y) = false := by simpa using hxy
        simp [this, hxy]
theorem run_equalIn_arr {n : Nat} {t e : TypeId} {k : IntKind} (ht : P.underlying t = some (.array n e)) (he : P.underlying e = some (.int k)) (hs : (P.info? e).map (·.size) = some 1) (d : Nat) (x y : Arr n) (w : World) :
    (Op.equalIn (d + 1 + 1) t x.val y.val).run P w = .ok (x == y) w := by
  have h2 : (sizeOf e).run P w = .ok 1 w := by
    simp only [sizeOf, typeInfo, Sem.run_bind, run_program, Result.andThen_ok]
    cases hh : P.info? e with
    | none => rw [hh] at hs; simp at hs
    | some i => rw [hh] at hs; simp at hs; simp [hs]
  have := eq_loop (P := P) (d := d) he (w := w) rfl x.1 y.1 (by rw [x.2, y.2]) x.cells.toArray y.cells.toArray [] [] rfl (by simp [Arr.cells]) (by simp [Arr.cells])
  rw [x.2] at this
  rw [Op.equalIn]
  simp only [Arr.val, Sem.run_bind, run_underlying ht, Result.andThen_ok, h2, Std.Legacy.Range.forIn_eq_forIn_range', Std.Legacy.Range.size, Nat.sub_zero, Nat.add_sub_cancel, Nat.div_one]
  simp only [List.length_nil] at this
  rw [this]
  by_cases h : x.1 = y.1
  · have h' : x = y := Subtype.ext h
    simp [h']
  · have h' : (x == y) = false := by
      rw [beq_eq_false_iff_ne]; intro e; exact h (by rw [e])
    simp [h, h']
theorem ex_eql_arr {n : Nat} {t e : TypeId} {k : IntKind} (ht : P.underlying t = some (.array n e)) (he : P.underlying e = some (.int k)) (hs : (P.info? e).map (·.size) = some 1) (hgt : P.eqGuardType P.depth t = false)
    {ρ : Operand → Value} {dst : Option Tmp} {ty yt : TypeId} {x y : Operand} {pos : String} {after : Array Edge} {guard : Option (Nat × Bool)} {p q : Arr n} (hx : ρ x = p.val) (hy : ρ y = q.val) (w : World) :
    (execOp ρ { dst := dst, op := .binOp .eql t x y yt, type := ty, pos := pos, after := after, guard := guard }).run P w = .ok (.value (.bool (p == q))) w := by
  have hr := run_equalIn_arr (P := P) ht he hs 9998 p q w
  have hg := run_eqGuard_agg (P := P) w .eql t x y p.cells.toArray q.cells.toArray hgt
  have hb := run_eql_struct (P := P) w t p.cells.toArray q.cells.toArray
  unfold Arr.val at *
  simp only [execOp, hx, hy, Sem.run_bind, hg, Result.andThen_ok, hb, hr, Sem.run_pure]
theorem ex_neq_arr {n : Nat} {t e : TypeId} {k : IntKind} (ht : P.underlying t = some (.array n e)) (he : P.underlying e = some (.int k)) (hs : (P.info? e).map (·.size) = some 1) (hgt : P.eqGuardType P.depth t = false)
    {ρ : Operand → Value} {dst : Option Tmp} {ty yt : TypeId} {x y : Operand} {pos : String} {after : Array Edge} {guard : Option (Nat × Bool)} {p q : Arr n} (hx : ρ x = p.val) (hy : ρ y = q.val) (w : World) :
    (execOp ρ { dst := dst, op := .binOp .neq t x y yt, type := ty, pos := pos, after := after, guard := guard }).run P w = .ok (.value (.bool (!(p == q)))) w := by
  have hr := run_equalIn_arr (P := P) ht he hs 9998 p q w
  have hg := run_eqGuard_agg (P := P) w .neq t x y p.cells.toArray q.cells.toArray hgt
  have hb := run_neq_struct (P := P) w t p.cells.toArray q.cells.toArray
  unfold Arr.val at *
  simp only [execOp, hx, hy, Sem.run_bind, hg, Result.andThen_ok, hb, hr, Sem.run_pure]

theorem run_append_row {w : World} {base : Nat} (t ty e : TypeId) (i : TypeInfo) (z : Value) (sz bytes : Nat) (ht : P.underlying t = some (.slice e)) (hi : P.info? e = some i) (hz : i.zero = some z)
    (hsize : i.size = sz) (hby : i.bytes = bytes) (hzs : z.cells.size = sz) (hsz : 0 < sz)
    {v x : Value} {n m : Nat} {xs news : List Value} (hown : w.ownsRow base e sz v n xs) (hx : Sl w x sz m news) (h1 : ∀ u ∈ news, u.oneCell' = true)
    (h63 : n + m ≤ maxLen) (hbytes : (n + m) * bytes ≤ 140737488355328) (hbase : base ≤ w.heap.size) :
    ∃ v' w', (Builtin.append_ #[t, t] ty #[v, x]).run P w = .ok v' w' ∧ w'.ownsRow base e sz v' (n + m) (xs ++ news) ∧ w.grownBy w' v.ownBlock ∧
      (v.ownBlock = v'.ownBlock ∨ ∀ k, v'.ownBlock = some k → w.heap.size ≤ k) ∧ ((∃ ao, v = .slice ao n n) → Below w.heap.size w w') := by
  subst hsize hby
  obtain ⟨ao, c, rfl, _, hl, hc⟩ := hx
  have hlen : (xs ++ news).length = (n + m) * i.size := by rw [List.length_append, hown.1, hl, Nat.add_mul]
  have hsmall : n + m ≤ 9223372036854775807 := h63
  have grows : ∀ old, old < n + m → ∀ row,
      (w.drew.alloc (.cells (xs.toArray ++ news.toArray ++ Builtin.zeroCells z.cells (grownCap w (n + m) old e - (n + m))) e)).ownsRow base e i.size
        (.slice (some ⟨w.heap.size, 0, none⟩) (n + m) (grownCap w (n + m) old e)) (n + m) (xs ++ news) ∧
      w.grownBy (w.drew.alloc (.cells (xs.toArray ++ news.toArray ++ Builtin.zeroCells z.cells (grownCap w (n + m) old e - (n + m))) e)) row := by
    intro old _ row
    have hge := grownCap_ge w (n + m) old e
    have hle := grownCap_le_maxLen w (n + m) old e h63
    refine ⟨⟨hlen, .inr ⟨w.heap.size, _, _, rfl, hbase, heap_alloc_new w.drew _, hge, hle, ?_, ?_⟩⟩, ⟨rfl, rfl, rfl, by simp, fun k hk _ => RowKit.Below.heap_alloc w.drew _ k hk⟩⟩
    · rw [Array.size_append, Array.size_append, size_zeroCells, hzs, List.size_toArray, List.size_toArray, ← List.length_append, hlen, ← Nat.add_mul]
      congr 1; omega
    · rw [Array.toList_append, Array.toList_append, ← hlen]
      simp only [List.append_assoc]
      rw [← List.append_assoc]
      exact List.take_left
  cases ao with
  | none =>
    have hnil : news = [] := by
      cases news with
      | nil => rfl
      | cons u l => obtain ⟨a, ha, _⟩ := hc 0 u rfl; cases ha
    subst hnil
    have hm : m = 0 := by
      rcases Nat.eq_zero_or_pos m with h | h
      · exact h
      · have := Nat.mul_pos h hsz
        simp only [List.length_nil] at hl
        omega
    subst hm
    rw [List.append_nil, Nat.add_zero]
    refine ⟨v, w, ?_, hown, ⟨rfl, rfl, rfl, Nat.le_refl _, fun _ _ _ => rfl⟩, .inl rfl, fun _ => Below.refl _ _⟩
    rcases hown.2 with ⟨rfl, rfl⟩ | ⟨g, cap, cur, rfl, _, _, hnc, _⟩
    · simp [Builtin.append_, run_underlying ht, sizeOf, typeInfo, hi, Builtin.lenOf, Builtin.firstCells]
    · simp [Builtin.append_, run_underlying ht, sizeOf, typeInfo, hi, Builtin.lenOf, Builtin.firstCells, hnc, storeCells]
  | some a =>
    have hc' : ∀ j u, news[j]? = some u → w.cell? (a.add j) = some u := fun j u hu => by
      obtain ⟨a', ha, h⟩ := hc j u hu; cases ha; exact h
    rcases hown.2 with ⟨rfl, rfl⟩ | ⟨g, cap, cur, rfl, hbg, hg, hnc, hcm, hcs, htake⟩
    · have hxs : xs = [] := List.eq_nil_of_length_eq_zero (by simpa using hown.1)
      subst hxs
      by_cases hm : m = 0
      · subst hm
        have hn : news = [] := List.eq_nil_of_length_eq_zero (by simpa using hl)
        subst hn
        refine ⟨.slice none 0 0, w, ?_, World.ownsRow_nil w base e i.size, ⟨rfl, rfl, rfl, Nat.le_refl _, fun _ _ _ => rfl⟩, .inl rfl, fun _ => Below.refl _ _⟩
        simp [Builtin.append_, run_underlying ht, sizeOf, typeInfo, hi, Builtin.lenOf, Builtin.firstCells, loadCells, loadCellsFrom]
      · have hr := run_append_nil (P := P) w t ty e i z ht hi hz a m c news hl hc' (by omega) (by omega) (by have hb := hbytes; simp only [Nat.zero_add] at hb; omega)
        have hgr := grows 0 (by omega) (Value.ownBlock (.slice none 0 0))
        simp only [Nat.zero_add, List.nil_append, Array.empty_append] at hgr ⊢
        exact ⟨_, _, hr, hgr.1, hgr.2, .inr fun k hk => by simp only [Value.ownBlock, Option.some.injEq] at hk; omega, fun _ => (below_drew w).trans (below_alloc w.drew _)⟩
    · by_cases hroom : n + m ≤ cap
      · have hfit : n * i.size + news.length ≤ cur.size := by rw [hl, hcs, ← Nat.add_mul]; exact Nat.mul_le_mul_right _ hroom
        have hr := run_append_room (P := P) w t ty e i ht hi g n cap cur hg a m c news hl hc' h1 hroom hfit
        refine ⟨_, _, hr, ⟨hlen, .inr ⟨g, cap, _, rfl, hbg, setRow_heap w g cur _ e _ hg, hroom, hcm, ?_, ?_⟩⟩, ⟨rfl, rfl, rfl, by simp, fun k _ hk => setRow_other w g k _ (fun e => hk (by simp [Value.ownBlock, e]))⟩, .inl rfl, ?_⟩
        · rw [List.size_toArray, List.length_append, List.length_append, List.length_take, List.length_drop, Array.length_toList]
          omega
        · rw [htake, ← hlen]
          exact List.take_left
        · rintro ⟨ao, e⟩
          simp only [Value.slice.injEq] at e
          have hm : m = 0 := by omega
          subst hm
          have hn : news = [] := List.eq_nil_of_length_eq_zero (by simpa using hl)
          subst hn
          rw [List.append_nil, List.length_nil, Nat.add_zero, List.take_append_drop, Array.toArray_toList, setRow_self w g cur _ (0, 0) hg]
          exact Below.refl _ _
      · have hold : ∀ j u, xs[j]? = some u → w.cell? ((⟨g, 0, none⟩ : Addr).add j) = some u := hown.cells (g := g) rfl
        have hr := run_append_grow (P := P) w t ty e i z ht hi hz ⟨g, 0, none⟩ n cap xs hown.1 hold a m c news hl hc' (by omega) (by omega) (growslice_fits (by omega) hbytes)
        have hgr := grows cap (by omega) (Value.ownBlock (.slice (some ⟨g, 0, none⟩) n cap))
        exact ⟨_, _, hr, hgr.1, hgr.2, .inr fun k hk => by simp only [Value.ownBlock, Option.some.injEq] at hk; omega, fun _ => (below_drew w).trans (below_alloc w.drew _)⟩
theorem row_shape {w : World} {base : Nat} {e : TypeId} {sz n : Nat} {v : Value} {xs : List Value} (h : w.ownsRow base e sz v n xs) : ∃ ao cap, v = .slice ao n cap := by
  rcases h.2 with ⟨rfl, rfl⟩ | ⟨g, cap, cur, rfl, _⟩
  · exact ⟨_, _, rfl⟩
  · exact ⟨_, _, rfl⟩
/-- What the table says of an element type. -/
def Elem (P : Program) (t e : TypeId) (sz bytes : Nat) : Prop :=
  P.underlying t = some (.slice e) ∧ 0 < sz ∧ 0 < bytes ∧ ∃ i z, P.info? e = some i ∧ i.zero = some z ∧ i.size = sz ∧ i.bytes = bytes ∧ z.cells.size = sz
theorem Elem.mk' {t e : TypeId} {sz bytes : Nat} (z : Value) (ht : P.underlying t = some (.slice e)) (h : (P.info? e).map (fun i => (i.zero, i.size, i.bytes)) = some (some z, sz, bytes)) (hz : z.cells.size = sz) (h0 : 0 < sz) (h1 : 0 < bytes) : Elem P t e sz bytes := by
  obtain ⟨i, hi, a, b, c⟩ := info_parts h
  exact ⟨ht, h0, h1, i, z, hi, a, b, c, hz⟩
theorem ex_append {w w0 : World} {S : List Nat} {bs : List (Nat × Obj)} {rows : List Row} {t e ty : TypeId} {sz bytes : Nat} (hE : Elem P t e sz bytes) {v x : Value} {n m : Nat} {xs news : List Value}
    (hH : Holds w0 S bs (⟨v, e, sz, n, xs⟩ :: rows) w) (hx : Sl w x sz m news) (h1 : ∀ u ∈ news, u.oneCell' = true)
    (hb : (n + m) * bytes ≤ 140737488355328)
    {ρ : Operand → Value} {dst : Option Tmp} {s y : Operand} {pos : String} {after : Array Edge} {guard : Option (Nat × Bool)} (hs : ρ s = v) (hy : ρ y = x) :
    ∃ v' w', (execOp ρ { dst := dst, op := .call { callee := .builtin .append, args := #[s, y], argTypes := #[t, t] }, type := ty, pos := pos, after := after, guard := guard }).run P w = .ok (.value v') w' ∧
      Holds w0 S bs (⟨v', e, sz, n + m, xs ++ news⟩ :: rows) w' := by
  obtain ⟨ht, hsz, hb1, i, z, hi, hz, hsize, hby, hzs⟩ := hE
  have hb2 : (n + m) * 1 ≤ (n + m) * bytes := Nat.mul_le_mul_left _ hb1
  obtain ⟨v', w', hr, h2, h3, h4, _⟩ := run_append_row (P := P) t ty e i z sz bytes ht hi hz hsize hby hzs hsz (hH.row _ (List.mem_cons_self)) hx h1 (by unfold maxLen; simp only; omega) hb hH.size
  refine ⟨v', w', ?_, hH.grownRow h3 h4 h2⟩
  rw [BigFrame.execOp_builtin, BigFrame.builtin_append]
  simp only [Sem.run_bind, List.map_toArray, List.map_cons, List.map_nil, hs, hy, hr, Result.andThen_ok, Sem.run_pure]
theorem wpList_append {w w0 : World} {S : List Nat} {bs : List (Nat × Obj)} {rows : List Row} {t e ty : TypeId} {sz bytes : Nat} (hE : Elem P t e sz bytes) {v x : Value} {n m : Nat} {xs news : List Value}
    (hH : Holds w0 S bs (⟨v, e, sz, n, xs⟩ :: rows) w) (hx : Sl w x sz m news) (h1 : ∀ u ∈ news, u.oneCell' = true)
    (hb : (n + m) * bytes ≤ 140737488355328)
    {ops : Array Oper} {rest : List Oper} {a : Act} {Q : Exit → Act → World → Prop} {dst : Option Tmp} {s y : Operand} {pos : String} {after : Array Edge} {guard : Option (Nat × Bool)} (hs : a.eval s = v) (hy : a.eval y = x)
    (hg : Region.wanted { dst := dst, op := .call { callee := .builtin .append, args := #[s, y], argTypes := #[t, t] }, type := ty, pos := pos, after := after, guard := guard } (yielded ops a.tmps) = true)
    (h : ∀ ao cap w', Holds w0 S bs (⟨.slice ao (n + m) cap, e, sz, n + m, xs ++ news⟩ :: rows) w' → wpList P ops Q rest (a.put dst (.slice ao (n + m) cap)) w') :
    wpList P ops Q ({ dst := dst, op := .call { callee := .builtin .append, args := #[s, y], argTypes := #[t, t] }, type := ty, pos := pos, after := after, guard := guard } :: rest) a w := by
  obtain ⟨v', w', hr, hH'⟩ := ex_append (P := P) (ρ := a.eval) (dst := dst) (pos := pos) (after := after) (guard := guard) (ty := ty) hE hH hx h1 hb hs hy
  have hsh : ∃ ao cap, v' = .slice ao (n + m) cap := row_shape (hH'.row _ List.mem_cons_self)
  obtain ⟨ao, cap, rfl⟩ := hsh
  exact wpList_ex hg hr (h ao cap w' hH')

theorem run_zeroValue {t : TypeId} {z : Value} (hz : (P.info? t).map (·.zero) = some (some z)) (w : World) : (zeroValue t).run P w = .ok z w := by
  simp only [zeroValue, typeInfo, Sem.run_bind, run_program, Result.andThen_ok]
  cases hh : P.info? t with
  | none => rw [hh] at hz; simp at hz
  | some i => rw [hh] at hz; simp only [Option.map_some, Option.some.injEq] at hz; simp [hz]
theorem run_sizeOf {t : TypeId} {sz : Nat} (hi : (P.info? t).map (·.size) = some sz) (w : World) : (sizeOf t).run P w = .ok sz w := by
  simp only [sizeOf, typeInfo, Sem.run_bind, run_program, Result.andThen_ok]
  cases hh : P.info? t with
  | none => rw [hh] at hi; simp at hi
  | some i => rw [hh] at hi; simp at hi; simp [hi]
theorem foldl_set (l : List Value) : ∀ (pre mid post : List Value) (k off : Nat), pre.length = off + k → mid.length = l.length →
    (l.zipIdx k).foldl (fun (cs : Array Value) (x : Value × Nat) => cs.setIfInBounds (off + x.2) x.1) (pre ++ mid ++ post).toArray = (pre ++ l ++ post).toArray := by
  induction l with
  | nil => intro pre mid post k off h1 h2; have : mid = [] := List.eq_nil_of_length_eq_zero (by simpa using h2); subst this; simp
  | cons c l ih =>
    intro pre mid post k off h1 h2
    match mid, h2 with
    | m :: mid, h2 =>
      rw [List.zipIdx_cons, List.foldl_cons]
      have e : (pre ++ m :: mid ++ post).toArray.setIfInBounds (off + k) c = ((pre ++ [c]) ++ mid ++ post).toArray := by
        rw [← h1]
        apply Array.ext'
        simp
      simp only [e]
      rw [ih (pre ++ [c]) mid post (k + 1) off (by simp; omega) (by simpa using h2)]
      simp
theorem fill_parts {size : Nat} (vs : List Value) (hv : ∀ v ∈ vs, v.cells.size = size) : ∀ (pre mid : List Value) (k : Nat), pre.length = k * size → mid.length = vs.length * size →
    Instr.fill (fun i => some (i * size, size)) (pre ++ mid).toArray ((vs.zipIdx k).map fun p => (p.2, p.1)) = some (pre ++ vs.flatMap (·.cells.toList)).toArray := by
  induction vs with
  | nil => intro pre mid k h1 h2; have : mid = [] := List.eq_nil_of_length_eq_zero (by simpa using h2); subst this; simp [Instr.fill]
  | cons v vs ih =>
    intro pre mid k h1 h2
    have hv0 := hv v (by simp)
    rw [List.zipIdx_cons, List.map_cons, Instr.fill]
    have hl : mid.length = size + vs.length * size := by rw [h2, List.length_cons, Nat.add_mul]; omega
    have hcond : (v.cells.size ≠ size || k * size + v.cells.size > (pre ++ mid).toArray.size) = false := by
      simp [hv0, h1]; omega
    simp only [hcond, Bool.false_eq_true, if_false]
    have e1 : v.cells.zipIdx.foldl (fun cs (x : Value × Nat) => cs.setIfInBounds (k * size + x.2) x.1) (pre ++ mid).toArray = (pre ++ v.cells.toList ++ mid.drop size).toArray := by
      have := foldl_set v.cells.toList pre (mid.take size) (mid.drop size) 0 (k * size) (by omega) (by simp [hv0]; omega)
      rw [List.append_assoc, List.take_append_drop] at this
      rw [← this, ← Array.foldl_toList, Array.toList_zipIdx]
    have e2 : (fun cs (x : Value × Nat) => match x with | (c, j) => Array.setIfInBounds cs (k * size + j) c) = (fun (cs : Array Value) (x : Value × Nat) => cs.setIfInBounds (k * size + x.2) x.1) := rfl
    rw [e2, e1, ih (fun u hu => hv u (List.mem_cons_of_mem _ hu)) (pre ++ v.cells.toList) (mid.drop size) (k + 1) (by simp [h1, hv0, Nat.add_mul]) (by simp; omega)]
    simp
theorem run_buildSlice {t e : TypeId} {sz bytes : Nat} (hE : Elem P t e sz bytes) (vs : List Value) (hv : ∀ v ∈ vs, v.cells.size = sz) (hb : vs.length * sz ≤ 2 ^ 24) (w : World) :
    (Instr.buildSlice t vs.length ((vs.zipIdx 0).map fun p => (p.2, p.1)).toArray).run P w =
      .ok (.slice (some ⟨w.heap.size, 0, none⟩) vs.length vs.length) (w.alloc (.cells (vs.flatMap (·.cells.toList)).toArray e)) := by
  obtain ⟨ht, hsz, _, i, z, hi, hz, hsize, hby, hzs⟩ := hE
  have h1 := run_sizeOf (P := P) (t := e) (sz := sz) (by rw [hi]; simp [hsize]) w
  have h2 := run_zeroValue (P := P) (t := e) (z := z) (by rw [hi]; simp [hz]) w
  have hcond : ¬ (vs.length * sz > 2 ^ 24) := by omega
  have hf : ∀ A : Array Value, A.size = vs.length * sz → Instr.fill (fun i => some (i * sz, sz)) A ((vs.zipIdx 0).map fun p => (p.2, p.1)) = some (vs.flatMap (·.cells.toList)).toArray := fun A hA => by
    have := fill_parts vs hv [] A.toList 0 (by simp) (by simpa using hA)
    simpa using this
  simp only [Instr.buildSlice, Sem.run_bind, run_underlying ht, Result.andThen_ok, h1, Sem.run_ite, hcond, if_false, Sem.run_pure]
  by_cases h0 : vs.length * sz = 0
  · simp only [h0, if_true, Result.andThen_ok, Array.range_zero', Sem.run_pure]
    rw [hf _ (by simp [h0])]
    simp [newRow]
  · simp only [h0, if_false, Result.andThen_ok, Sem.run_bind, h2, Sem.run_pure]
    rw [hf _ (by simp)]
    simp [newRow]
section
variable {w w0 : World} {S : List Nat} {bs bs' : List (Nat × Obj)} {rows : List Row} {ops : Array Oper} {rest : List Oper} {a : Act} {Q : Exit → Act → World → Prop} {dst : Option Tmp} {ty : TypeId} {pos : String} {after : Array Edge} {guard : Option (Nat × Bool)}
theorem wpList_alloc {e : TypeId} {z : Value} (hz : (P.info? e).map (·.zero) = some (some z)) (hH : Holds w0 S bs rows w)
    (hg : Region.wanted { dst := dst, op := .alloc e, type := ty, pos := pos, after := after, guard := guard } (yielded ops a.tmps) = true)
    (h : ∀ g w', Holds w0 S ((g, .cells z.cells e) :: bs) rows w' → wpList P ops Q rest (a.put dst (.pointer (some ⟨g, 0, none⟩))) w') :
    wpList P ops Q ({ dst := dst, op := .alloc e, type := ty, pos := pos, after := after, guard := guard } :: rest) a w := by
  refine wpList_ex hg (v := .pointer (some ⟨w.heap.size, 0, none⟩)) (w' := w.alloc (.cells z.cells e)) ?_ (h _ _ (hH.alloc _))
  simp only [execOp, Instr.alloc, Sem.run_bind, run_zeroValue hz, Result.andThen_ok, newVar, newRow, run_newObj, Sem.run_pure]
  rfl
theorem wpList_box {e : TypeId} {x : Operand} {v : Value} (hx : a.eval x = v) (hH : Holds w0 S bs rows w)
    (hg : Region.wanted { dst := dst, op := .box e x, type := ty, pos := pos, after := after, guard := guard } (yielded ops a.tmps) = true)
    (h : ∀ g w', Holds w0 S ((g, .cells v.cells e) :: bs) rows w' → wpList P ops Q rest (a.put dst (.pointer (some ⟨g, 0, none⟩))) w') :
    wpList P ops Q ({ dst := dst, op := .box e x, type := ty, pos := pos, after := after, guard := guard } :: rest) a w := by
  refine wpList_ex hg (v := .pointer (some ⟨w.heap.size, 0, none⟩)) (w' := w.alloc (.cells v.cells e)) ?_ (h _ _ (hH.alloc _))
  simp only [execOp, Instr.box, Sem.run_bind, Result.andThen_ok, newVar, newRow, run_newObj, Sem.run_pure, hx]
  rfl
/-- Block g is among the call's own; o is what it holds. -/
inductive Own : List (Nat × Obj) → Nat → Obj → Prop
  | here {g o l} : Own ((g, o) :: l) g o
  | there {g o p l} : Own l g o → Own (p :: l) g o
inductive Turn : List (Nat × Obj) → Nat → Obj → Obj → List (Nat × Obj) → Prop
  | here {g o o' l} : Turn ((g, o) :: l) g o o' ((g, o') :: l)
  | there {g o o' p l l'} : Turn l g o o' l' → Turn (p :: l) g o o' (p :: l')
theorem Own.mem {bs : List (Nat × Obj)} {g : Nat} {o : Obj} (h : Own bs g o) : (g, o) ∈ bs := by
  induction h with
  | here => exact List.mem_cons_self
  | there _ ih => exact List.mem_cons_of_mem _ ih
theorem Turn.split {bs bs' : List (Nat × Obj)} {g : Nat} {o o' : Obj} (h : Turn bs g o o' bs') : ∃ pre post, bs = pre ++ (g, o) :: post ∧ bs' = pre ++ (g, o') :: post := by
  induction h with
  | @here g o o' l => exact ⟨[], l, rfl, rfl⟩
  | @there g o o' p l l' _ ih => obtain ⟨pre, post, rfl, rfl⟩ := ih; exact ⟨p :: pre, post, rfl, rfl⟩
theorem Holds.at (h : Holds w0 S bs rows w) {g : Nat} {o : Obj} (ho : Own bs g o) : w.heap[g]? = some o := h.blk _ ho.mem
theorem Holds.turn (h : Holds w0 S bs rows w) {g : Nat} {o o' : Obj} (ht : Turn bs g o o' bs') {w' : World}
    (hw : w'.heap[g]? = some o') (hos : w'.os = w.os) (hta : w'.tape = w.tape) (hout : w'.output = w.output) (hsz : w.heap.size ≤ w'.heap.size)
    (hk : ∀ k, k < w.heap.size → k ≠ g → w'.heap[k]? = w.heap[k]?) : Holds w0 S bs' rows w' := by
  obtain ⟨pre, post, rfl, rfl⟩ := ht.split
  exact h.set rfl hw hos hta hout hsz hk
theorem Turn.own {g : Nat} {o o' : Obj} (h : Turn bs g o o' bs') : Own bs g o := by
  induction h with
  | here => exact .here
  | there _ ih => exact .there ih
theorem cell_own (h : Holds w0 S bs rows w) {g : Nat} {cs : Array Value} {e : TypeId} {fr : Nat × Nat} (ho : Own bs g (.cells cs e fr)) (j : Nat) : w.cell? ⟨g, j, none⟩ = cs[j]? := by
  simp [World.cell?, h.at ho]
/-- A whole variable of the call's own is read. -/
theorem ex_load_own {ρ : Operand → Value} {t : TypeId} {x : Operand} {g : Nat} (hx : ρ x = .pointer (some ⟨g, 0, none⟩))
    {d : TypeDesc} (hu : P.underlying t = some d) (hd : aggD d = true) {sz : Nat}
    (hi : (P.info? t).map (·.size) = some sz) {cs : Array Value} {e : TypeId} {fr : Nat × Nat} (hH : Holds w0 S bs rows w) (ho : Own bs g (.cells cs e fr)) (hl : cs.size = sz) :
    (execOp ρ { dst := dst, op := .load t x, type := ty, pos := pos, after := after, guard := guard }).run P w = .ok (.value (.agg cs)) w := by
  have := ex_load_agg (P := P) (ρ := ρ) (dst := dst) (ty := ty) (pos := pos) (after := after) (guard := guard) hx hu hd hi (cs := cs.toList) (by simpa using hl) (w := w)
    (fun j u hu' => by
      have hadd : (⟨g, 0, none⟩ : Addr).add j = ⟨g, j, none⟩ := by unfold Addr.add; split <;> simp_all
      rw [hadd, cell_own hH ho j]; simpa using hu')
  simpa using this
theorem wpList_buildSlice {t e : TypeId} {sz bytes : Nat} (hE : Elem P t e sz bytes) (vs : List Value) (hv : ∀ v ∈ vs, v.cells.size = sz) (hb : vs.length * sz ≤ 2 ^ 24) {parts : Array (Nat × Operand)} {n : Nat}
    (hn : n = vs.length) (hp : (parts.toList.map fun p => (p.1, a.eval p.2)) = (vs.zipIdx 0).map fun p => (p.2, p.1)) (hH : Holds w0 S bs rows w) {xs : List Value} (hxs : xs = vs.flatMap (·.cells.toList))
    (hg : Region.wanted { dst := dst, op := .buildSlice t n parts, type := ty, pos := pos, after := after, guard := guard } (yielded ops a.tmps) = true)
    (h : ∀ g w', Holds w0 S bs (⟨.slice (some ⟨g, 0, none⟩) n n, e, sz, n, xs⟩ :: rows) w' → wpList P ops Q rest (a.put dst (.slice (some ⟨g, 0, none⟩) n n)) w') :
    wpList P ops Q ({ dst := dst, op := .buildSlice t n parts, type := ty, pos := pos, after := after, guard := guard } :: rest) a w := by
  subst hn hxs
  have hlen : ∀ l : List Value, (∀ v ∈ l, v.cells.size = sz) → (l.flatMap (·.cells.toList)).length = l.length * sz := by
    intro l hl
    induction l with
    | nil => simp
    | cons x l ih =>
      have h1 := hl x (by simp)
      have h2 := ih fun v hv => hl v (List.mem_cons_of_mem _ hv)
      rw [List.flatMap_cons, List.length_append, h2, Array.length_toList, h1, List.length_cons, Nat.add_mul]
      omega
  have hl := hlen vs hv
  have hb2 : vs.length * 1 ≤ vs.length * sz := Nat.mul_le_mul_left _ hE.2.1
  have hrow : (w.alloc (.cells (vs.flatMap (·.cells.toList)).toArray e)).ownsRow w.heap.size e sz (.slice (some ⟨w.heap.size, 0, none⟩) vs.length vs.length) vs.length (vs.flatMap (·.cells.toList)) :=
    ⟨hl, .inr ⟨w.heap.size, vs.length, _, rfl, Nat.le_refl _, heap_alloc_new w _, Nat.le_refl _, by unfold maxLen; omega, by simpa using hl, by rw [← hl]; exact List.take_length⟩⟩
  refine wpList_ex hg ?_ (h _ _ (hH.addRow (below_alloc w _) hrow))
  have := run_buildSlice (P := P) hE vs hv hb w
  simp only [execOp, Sem.run_bind]
  rw [show (parts.map fun x => match x with | (i, y) => (i, a.eval y)) = (parts.toList.map fun p => (p.1, a.eval p.2)).toArray by rw [← Array.toList_map, Array.toArray_toList], hp, this]
  rfl
theorem wpList_buildArr {t e : TypeId} {sz bytes : Nat} (hE : Elem P t e sz bytes) (l : List (Arr sz)) (hH : Holds w0 S bs rows w) {parts : Array (Nat × Operand)} {n : Nat}
    (hn : n = l.length) (hp : (parts.toList.map fun p => (p.1, a.eval p.2)) = ((l.map Arr.val).zipIdx 0).map fun p => (p.2, p.1)) (hb : n * sz ≤ 16777216)
    (hg : Region.wanted { dst := dst, op := .buildSlice t n parts, type := ty, pos := pos, after := after, guard := guard } (yielded ops a.tmps) = true)
    (h : ∀ g w', Holds w0 S bs (⟨.slice (some ⟨g, 0, none⟩) n n, e, sz, n, flat l⟩ :: rows) w' → wpList P ops Q rest (a.put dst (.slice (some ⟨g, 0, none⟩) n n)) w') :
    wpList P ops Q ({ dst := dst, op := .buildSlice t n parts, type := ty, pos := pos, after := after, guard := guard } :: rest) a w := by
  refine wpList_buildSlice hE (l.map Arr.val) ?_ (by simpa [← hn] using hb) (by simpa using hn) hp hH ?_ hg h
  · intro v hv
    obtain ⟨x, _, rfl⟩ := List.mem_map.1 hv
    simp [Arr.val, Value.cells, Arr.len]
  · rw [List.flatMap_map]; rfl
theorem wpList_build {t : TypeId} {parts : Array (Nat × Operand)} {v : Value} (hb : ∀ w, (Instr.build t (parts.toList.map fun p => (p.1, a.eval p.2)).toArray).run P w = .ok v w)
    (hg : Region.wanted { dst := dst, op := .build t parts, type := ty, pos := pos, after := after, guard := guard } (yielded ops a.tmps) = true)
    (h : wpList P ops Q rest (a.put dst v) w) : wpList P ops Q ({ dst := dst, op := .build t parts, type := ty, pos := pos, after := after, guard := guard } :: rest) a w :=
  wpList_ex hg (by
    simp only [execOp, Sem.run_bind]
    rw [show (parts.map fun x => match x with | (i, y) => (i, a.eval y)) = (parts.toList.map fun p => (p.1, a.eval p.2)).toArray by rw [← Array.toList_map, Array.toArray_toList], hb]
    rfl) h
/-- t is a struct's or an array's type of sz cells. -/
def AggT (P : Program) (t : TypeId) (sz : Nat) : Prop := ∃ d, P.underlying t = some d ∧ aggD d = true ∧ (P.info? t).map (·.size) = some sz
def OneT (P : Program) (t : TypeId) : Prop := ∃ d, P.underlying t = some d ∧ aggD d = false
/-- t is an array's type of n integers. -/
def ArrT (P : Program) (t : TypeId) (n : Nat) : Prop := ∃ e k, P.underlying t = some (.array n e) ∧ P.underlying e = some (.int k) ∧ (P.info? e).map (·.size) = some 1 ∧ P.eqGuardType P.depth t = false
theorem wpList_load_agg {t : TypeId} {sz : Nat} (hA : AggT P t sz) {cs : List Value} (hl : cs.length = sz) {ad : Addr} (hc : ∀ j u, cs[j]? = some u → w.cell? (ad.add j) = some u) {x : Operand}
    (hx : a.eval x = .pointer (some ad))
    (hg : Region.wanted { dst := dst, op := .load t x, type := ty, pos := pos, after := after, guard := guard } (yielded ops a.tmps) = true)
    (h : wpList P ops Q rest (a.put dst (.agg cs.toArray)) w) : wpList P ops Q ({ dst := dst, op := .load t x, type := ty, pos := pos, after := after, guard := guard } :: rest) a w := by
  obtain ⟨d, hu, hd, hi⟩ := hA
  exact wpList_ex hg (ex_load_agg hx hu hd hi hl hc) h
theorem wpList_eql_arr {n : Nat} {t : TypeId} (hA : ArrT P t n) {x y : Operand} {yt : TypeId} {p q : Arr n} (hx : a.eval x = p.val) (hy : a.eval y = q.val)
    (hg : Region.wanted { dst := dst, op := .binOp .eql t x y yt, type := ty, pos := pos, after := after, guard := guard } (yielded ops a.tmps) = true)
    (h : wpList P ops Q rest (a.put dst (.bool (p == q))) w) : wpList P ops Q ({ dst := dst, op := .binOp .eql t x y yt, type := ty, pos := pos, after := after, guard := guard } :: rest) a w := by
  obtain ⟨e, k, ht, he, hs, hgt⟩ := hA
  exact wpList_ex hg (ex_eql_arr ht he hs hgt hx hy w) h
/-- A variable that holds the array x. -/
def objA {n : Nat} (x : Arr n) (e : TypeId) : Obj := .cells x.cells.toArray e
theorem ex_loadA {ρ : Operand → Value} {n : Nat} {t : TypeId} (hA : AggT P t n) (hH : Holds w0 S bs rows w) {x : Operand} {g : Nat} {v : Arr n} {e : TypeId}
    (hx : ρ x = .pointer (some ⟨g, 0, none⟩)) (ho : Own bs g (objA v e)) :
    (execOp ρ { dst := dst, op := .load t x, type := ty, pos := pos, after := after, guard := guard }).run P w = .ok (.value v.val) w := by
  obtain ⟨d, hu, hd, hi⟩ := hA
  exact ex_load_own hx hu hd hi hH ho (by simp [Arr.len])
theorem wp_region_holds {id : Nat} {l : List Oper} (hm : P.follows .mixedOrders = true) (hB : Region.lexB .any l.toArray = true) (hH : Holds w0 S bs rows w)
    (h : wpQuiet P l.toArray (fun w' => Holds w0 S bs rows w') (fun a' => ∀ w', Holds w0 S bs rows w' → Q .normal a' w') l a) : (Code.region id l.toArray true).wp P Q a w :=
  wp_region_quiet (C := fun w' => Holds w0 S bs rows w') hm hB hH.drew (by simpa using h)
theorem wpQ_load_agg {C : World → Prop} {K : Act → Prop} {t : TypeId} {sz : Nat} (hA : AggT P t sz) {cs : List Value} (hl : cs.length = sz) {ad : Addr} (hc : ∀ w, C w → ∀ j u, cs[j]? = some u → w.cell? (ad.add j) = some u) {x : Operand}
    (hx : a.eval x = .pointer (some ad))
    (hg : Region.wanted { dst := dst, op := .load t x, type := ty, pos := pos, after := after, guard := guard } (yielded ops a.tmps) = true)
    (h : wpQuiet P ops C K rest (a.put dst (.agg cs.toArray))) : wpQuiet P ops C K ({ dst := dst, op := .load t x, type := ty, pos := pos, after := after, guard := guard } :: rest) a := by
  obtain ⟨d, hu, hd, hi⟩ := hA
  exact wpQuiet_ex hg (fun w hw => ex_load_agg hx hu hd hi hl (hc w hw)) h
theorem wpQ_neq_arr {C : World → Prop} {K : Act → Prop} {n : Nat} {t : TypeId} (hA : ArrT P t n) {x y : Operand} {yt : TypeId} {p q : Arr n} (hx : a.eval x = p.val) (hy : a.eval y = q.val)
    (hg : Region.wanted { dst := dst, op := .binOp .neq t x y yt, type := ty, pos := pos, after := after, guard := guard } (yielded ops a.tmps) = true)
    (h : wpQuiet P ops C K rest (a.put dst (.bool (!(p == q))))) : wpQuiet P ops C K ({ dst := dst, op := .binOp .neq t x y yt, type := ty, pos := pos, after := after, guard := guard } :: rest) a := by
  obtain ⟨e, k, ht, he, hs, hgt⟩ := hA
  exact wpQuiet_ex hg (fun w _ => ex_neq_arr ht he hs hgt hx hy w) h
section
variable {C : World → Prop} {K : Act → Prop}
theorem wpQ_move {x : Operand} {v : Value} (hx : a.eval x = v) (hg : Region.wanted { dst := dst, op := .move x, type := ty, pos := pos, after := after, guard := guard } (yielded ops a.tmps) = true)
    (h : wpQuiet P ops C K rest (a.put dst v)) : wpQuiet P ops C K ({ dst := dst, op := .move x, type := ty, pos := pos, after := after, guard := guard } :: rest) a :=
  wpQuiet_ex hg (fun w _ => by simp only [execOp, hx, Sem.run_pure]) h
theorem wpQ_assign {x : Operand} {v : Value} (hx : a.eval x = v) (hg : Region.wanted { dst := dst, op := .assign x, type := ty, pos := pos, after := after, guard := guard } (yielded ops a.tmps) = true)
    (h : wpQuiet P ops C K rest (a.put dst v)) : wpQuiet P ops C K ({ dst := dst, op := .assign x, type := ty, pos := pos, after := after, guard := guard } :: rest) a :=
  wpQuiet_ex hg (fun w _ => by simp only [execOp, hx, Sem.run_pure]) h
theorem wpQ_pick {c x y : Operand} {b : Bool} {v : Value} (hc : a.eval c = .bool b) (hv : (if b then a.eval x else a.eval y) = v) (hg : Region.wanted { dst := dst, op := .pick c x y, type := ty, pos := pos, after := after, guard := guard } (yielded ops a.tmps) = true)
    (h : wpQuiet P ops C K rest (a.put dst v)) : wpQuiet P ops C K ({ dst := dst, op := .pick c x y, type := ty, pos := pos, after := after, guard := guard } :: rest) a :=
  wpQuiet_ex hg (fun w _ => by simp only [execOp, hc, asBool, Sem.run_bind, Sem.run_pure, Result.andThen_ok, hv]) h
theorem wpQ_skip {o : Oper} (hg : Region.wanted o (yielded ops a.tmps) = false) (h : wpQuiet P ops C K rest (a.put o.dst undef)) : wpQuiet P ops C K (o :: rest) a := BigFrame.wpQuiet_skip hg h
theorem wpQ_index {t e : TypeId} {sz bytes : Nat} (hE : Elem P t e sz bytes) {x i : Operand} {ad : Addr} {n c j : Nat} {q : Int} {k : IntKind} (hx : a.eval x = .slice (some ad) n c) (hi : a.eval i = .int k q) (hq : q = (j : Int)) (hj : j < n)
    (hg : Region.wanted { dst := dst, op := .indexAddr t x i, type := ty, pos := pos, after := after, guard := guard } (yielded ops a.tmps) = true)
    (h : wpQuiet P ops C K rest (a.put dst (.pointer (some (ad.add (j * sz)))))) : wpQuiet P ops C K ({ dst := dst, op := .indexAddr t x i, type := ty, pos := pos, after := after, guard := guard } :: rest) a := by
  subst hq
  obtain ⟨ht, hsz, _, ii, z, hi', _, hsize, _, _⟩ := hE
  have h2 : ∀ w, (sizeOf e).run P w = .ok sz w := run_sizeOf (by rw [hi']; simp [hsize])
  refine wpQuiet_ex hg (fun w _ => ?_) h
  have hc : (0 : Int) ≤ (j : Int) ∧ (j : Int) < n := by omega
  simp only [execOp, hx, hi, Instr.indexAt, asIntOf, Sem.run_bind, Sem.run_pure, Result.andThen_ok, run_underlying ht, h2, hc, and_self, if_true, Int.toNat_natCast]
theorem wpQ_len {t : TypeId} {e : TypeId} (ht : P.underlying t = some (.slice e)) {x : Operand} {ao : Option Addr} {n c : Nat} (hx : a.eval x = .slice ao n c)
    (hg : Region.wanted { dst := dst, op := .call { callee := .builtin .len, args := #[x], argTypes := #[t] }, type := ty, pos := pos, after := after, guard := guard } (yielded ops a.tmps) = true)
    (h : wpQuiet P ops C K rest (a.put dst (.int .i64 n))) : wpQuiet P ops C K ({ dst := dst, op := .call { callee := .builtin .len, args := #[x], argTypes := #[t] }, type := ty, pos := pos, after := after, guard := guard } :: rest) a := by
  refine wpQuiet_ex hg (fun w _ => ?_) h
  rw [BigFrame.execOp_builtin, BigFrame.builtin_len]
  simp [hx, Builtin.len_, run_underlying ht, goInt]
/-- What a comparison of whole numbers says. -/
@[reducible] def cmpB (op : BinOp) (p q : Int) : Bool :=
  match op with | .eql => p == q | .neq => p != q | .lss => decide (p < q) | .leq => decide (p ≤ q) | .gtr => decide (p > q) | .geq => decide (p ≥ q) | _ => false
def isCmp : BinOp → Bool | .eql | .neq | .lss | .leq | .gtr | .geq => true | _ => false
theorem run_cmp {op : BinOp} (ho : isCmp op = true) (t : TypeId) (k : IntKind) (p q : Int) (w : World) : (binOp op t (.int k p) (.int k q)).run P w = .ok (.bool (cmpB op p q)) w := by
  cases op <;> simp [isCmp] at ho <;> simp [binOp, Op.intCmp, cmpB]
theorem wpQ_cmp {op : BinOp} {t yt : TypeId} {x y : Operand} {k : IntKind} {p q : Int} {b : Bool} (ho : isCmp op = true) (hx : a.eval x = .int k p) (hy : a.eval y = .int k q) (hb : cmpB op p q = b)
    (hg : Region.wanted { dst := dst, op := .binOp op t x y yt, type := ty, pos := pos, after := after, guard := guard } (yielded ops a.tmps) = true)
    (h : wpQuiet P ops C K rest (a.put dst (.bool b))) : wpQuiet P ops C K ({ dst := dst, op := .binOp op t x y yt, type := ty, pos := pos, after := after, guard := guard } :: rest) a := by
  refine wpQuiet_ex hg (fun w _ => ?_) h
  simp only [execOp, hx, hy, Sem.run_bind, eqGuard_at_int, Sem.run_pure, Result.andThen_ok, run_cmp ho, hb]
def isArith : BinOp → Bool | .add | .sub | .mul => true | _ => false
@[reducible] def arithI (op : BinOp) (p q : Int) : Int := match op with | .add => p + q | .sub => p - q | .mul => p * q | _ => 0
theorem run_arith {op : BinOp} (ho : isArith op = true) (t : TypeId) (k : IntKind) (p q : Int) (w : World) : (binOp op t (.int k p) (.int k q)).run P w = .ok (.int k (k.wrap (arithI op p q))) w := by
  cases op <;> simp [isArith] at ho <;> simp [binOp, Op.intArith, arithI]
theorem wpQ_arith {op : BinOp} {t yt : TypeId} {x y : Operand} {k : IntKind} {p q r : Int} (ho : isArith op = true) (hx : a.eval x = .int k p) (hy : a.eval y = .int k q) (hr : k.wrap (arithI op p q) = r)
    (hg : Region.wanted { dst := dst, op := .binOp op t x y yt, type := ty, pos := pos, after := after, guard := guard } (yielded ops a.tmps) = true)
    (h : wpQuiet P ops C K rest (a.put dst (.int k r))) : wpQuiet P ops C K ({ dst := dst, op := .binOp op t x y yt, type := ty, pos := pos, after := after, guard := guard } :: rest) a := by
  refine wpQuiet_ex hg (fun w _ => ?_) h
  have he : ∀ u v, eqGuard op t x y u v = pure () := by intro u v; cases op <;> simp [isArith] at ho <;> rfl
  simp only [execOp, hx, hy, Sem.run_bind, he, Sem.run_pure, Result.andThen_ok, run_arith ho, hr]
theorem wpQ_not {t : TypeId} {x : Operand} {b : Bool} (hx : a.eval x = .bool b) (hg : Region.wanted { dst := dst, op := .unOp .not t x, type := ty, pos := pos, after := after, guard := guard } (yielded ops a.tmps) = true)
    (h : wpQuiet P ops C K rest (a.put dst (.bool !b))) : wpQuiet P ops C K ({ dst := dst, op := .unOp .not t x, type := ty, pos := pos, after := after, guard := guard } :: rest) a :=
  wpQuiet_ex hg (fun w _ => by simp [execOp, hx, Op.unary]) h
/-- A function of this program that has a body. -/
def Body (P : Program) (f : FuncId) : Prop := ∃ fn c, P.funcs[f]? = some fn ∧ fn.body = some c ∧ (fn.name == "runtime.NumGoroutine") = false
theorem ex_call {f : FuncId} (hf : Body P f) {xs : Array Operand} {ats : Array TypeId} {args : Array Value} (ha : xs.map a.eval = args) (w : World) :
    (execOp a.eval { dst := dst, op := .call { callee := .value (.func f), args := xs, argTypes := ats }, type := ty, pos := pos, after := after, guard := guard }).run P w = .ok (.enter f args) w := by
  obtain ⟨fn, c, h1, h2, h3⟩ := hf
  rw [execOp_call_go]
  have h3' : ¬ fn.name = "runtime.NumGoroutine" := by simpa using h3
  simp [callFunc, h1, h2, h3', ha]
theorem wpQ_call {f : FuncId} (hf : Body P f) {xs : Array Operand} {ats : Array TypeId} {args : Array Value} {v : Value} (ha : (xs.toList.map a.eval).toArray = args)
    (hc : ∀ w, C w → Calls P f args w fun e w' => e = .returned v ∧ C w')
    (hg : Region.wanted { dst := dst, op := .call { callee := .value (.func f), args := xs, argTypes := ats }, type := ty, pos := pos, after := after, guard := guard } (yielded ops a.tmps) = true)
    (h : wpQuiet P ops C K rest (a.put dst v)) : wpQuiet P ops C K ({ dst := dst, op := .call { callee := .value (.func f), args := xs, argTypes := ats }, type := ty, pos := pos, after := after, guard := guard } :: rest) a :=
  wpQuiet_call hg (fun w => ex_call hf (by rw [← ha, ← Array.toList_map, Array.toArray_toList]) w) hc h
end
end
end
end Go.Proofs.Ytgkfopodhikckaa

/- From a law's walk to its row: arguments opened, the post shut. Over any program. No condition. -/
namespace Go.Proofs.Ytgkfopodhikckaa
open Go.RowKit Go.ChangeShapes Go.WideShapes
section
variable {H : Type} {enc : TypeId × Value → H} {P : Program} {W W' : World}
/-- All arguments read behind the call as they did. -/
theorem trodAll_below (hl : laidOutB P = true) (hb : Below W.heap.size W W') : ∀ (ts : List TypeId) (vs : List Value) (ds : List (DataW H)) (ps : List MemPlace),
    (∀ t ∈ ts, P.readableRec t = true ∧ t < P.types.size) → DataW.TrodAll enc P W 0 (fun _ => true) true ts vs ds ps → (∀ x ∈ ps, x.block < W.heap.size) →
    DataW.TrodAll enc P W' 0 (fun b => decide (b < W.heap.size)) true ts vs ds ps
  | [], [], [], _, _, h, _ => h
  | t :: ts, v :: vs, d :: ds, _, hr, ⟨p, q, h1, h2, e⟩, hlt => by
    subst e
    exact ⟨p, q, Below.trod hl (hr t (by simp)).1 (hr t (by simp)).2 h1 hb (fun x hx => hlt x (List.mem_append.2 (.inl hx))),
      trodAll_below hl hb ts vs ds q (fun t ht => hr t (by simp [ht])) h2 (fun x hx => hlt x (List.mem_append.2 (.inr hx))), rfl⟩
  | [], _ :: _, _, _, _, h, _ => h.elim
  | [], [], _ :: _, _, _, h, _ => h.elim
  | _ :: _, [], _, _, _, h, _ => h.elim
  | _ :: _, _ :: _, [], _, _, h, _ => h.elim
/-- What a law that returns true has to leave. -/
theorem post_true {f : Func} {s : ChangeSpec} {apart fresh handsOn : Bool} {args : Array Value} {ds gs : List (DataW H)} {before : List MemPlace} {tb : TypeId}
    (hl : laidOutB P = true) (hr : ∀ t ∈ f.params.toList, P.readableRec t = true ∧ t < P.types.size) (hres : f.resultTypes = #[tb]) (htb : P.underlying tb = some .bool)
    (hW : DataW.Whole enc P f.params.toList s.vars apart W args.toList ds gs before) (hvars : s.vars = []) (hfn : s.fn H ds = { results := [.lit (.bool true)], args := ds }) (hb : Below W.heap.size W W') :
    s.post enc P f apart fresh handsOn false W args (.bool true) W' := by
  have hW' := hW
  obtain ⟨p, q, hA, hV, rfl, hz, hd⟩ := hW
  rw [hvars] at hV
  obtain ⟨rfl, rfl⟩ := trodVars_none hV
  rw [List.append_nil] at hW'
  refine ⟨ds, [], p, [], p, [], hW', ?_, ?_, ?_, hb.frame _, fun h => by cases h⟩
  · rw [List.append_nil, hfn, hres]
    exact trodAll_mk1 ⟨1, by simp [DataW.trod, htb, Value.cells]⟩
  · rw [List.append_nil, hfn]
    exact trodAll_below hl hb _ _ _ _ hr hA (fun x hx => hW'.lt x hx)
  · rw [List.append_nil, hfn, hvars]
    rfl
/-- An array of bytes that is read. -/
theorem open_bytes {t e : TypeId} {n : Nat} {base : Nat} {spare : Nat → Bool} {held : Bool} {fuel : Nat} {cs : List Value} {x : DataW H × List MemPlace} (ht : P.underlying t = some (.array n e)) (he : P.underlying e = some (.int .u8))
    (hc : P.cellsOf t = n) (hc1 : P.cellsOf e = 1) (h : DataW.trod enc P W base spare held fuel t cs = some x) : ∃ a : Arr n, cs = a.cells := by
  cases fuel with
  | zero => simp [DataW.trod] at h
  | succ m =>
    rw [DataW.trod_step] at h
    unfold DataW.trodStep at h
    simp only [ht] at h
    split at h
    · rename_i hlen
      rw [hc] at hlen
      simp only [Option.map_eq_some_iff] at h
      obtain ⟨ys, hy, _⟩ := h
      have key : ∀ i, i < n → ∃ b : UInt8, cs[i]? = some (byt b) := by
        intro i hi
        have h1 := mapM_some_get hy i i (by simp [hi])
        have hl := mapM_some_length hy
        have hi' : i < ys.length := by rw [hl]; simpa using hi
        rw [List.getElem?_eq_getElem hi'] at h1
        obtain ⟨z, hz, _, hw⟩ := DataW.trod_int he h1
        rw [hc1, Nat.mul_one] at hz
        have h0 : (0 : Int) ≤ z ∧ z ≤ 255 := by
          have e1 : IntKind.u8.min = 0 := rfl
          have e2 : IntKind.u8.max = 255 := rfl
          simp only [Lit.wf, Bool.and_eq_true, decide_eq_true_eq] at hw
          omega
        refine ⟨UInt8.ofNat z.toNat, ?_⟩
        have h2 : (cs.drop i)[0]? = some (.int .u8 z) := by
          have h3 : ((cs.drop i).take 1)[0]? = some (.int .u8 z) := by rw [hz]; rfl
          rw [List.getElem?_take] at h3
          simpa using h3
        rw [List.getElem?_drop, Nat.add_zero] at h2
        rw [h2]
        simp only [byt, UInt8.toNat_ofNat', Option.some.injEq, Value.int.injEq, true_and]
        omega
      obtain ⟨g, hg⟩ := Deep.choose_lt key
      refine ⟨⟨(List.range n).map g, by simp⟩, ?_⟩
      apply List.ext_getElem?
      intro i
      by_cases hi : i < n
      · rw [hg i hi]; simp [Arr.cells, hi]
      · rw [List.getElem?_eq_none (by omega), List.getElem?_eq_none (by simp [Arr.cells]; omega)]
    · simp at h
theorem flat_of {n : Nat} (f : Nat → Arr n) (len : Nat) (hn : 0 < n) (j : Nat) (u : Value) (h : (flat ((List.range len).map f))[j]? = some u) : j / n < len ∧ (f (j / n)).cells[j % n]? = some u := by
  have hj := (List.getElem?_eq_some_iff.1 h).1
  rw [flat_len] at hj
  simp only [List.length_map, List.length_range] at hj
  have hd : j / n < len := (Nat.div_lt_iff_lt_mul hn).2 hj
  refine ⟨hd, ?_⟩
  have e : j = (j / n) * n + j % n := by rw [Nat.mul_comm]; exact (Nat.div_add_mod j n).symm
  rw [e, flat_get _ _ (by simpa using hd) _ (Nat.mod_lt _ hn)] at h
  simpa using h
/-- A slice of such arrays. -/
theorem open_arrs {ts t e : TypeId} {n : Nat} {base : Nat} {fuel : Nat} {v : Value} {x : DataW H × List MemPlace} (hs : P.underlying ts = some (.slice t)) (ht : P.underlying t = some (.array n e)) (he : P.underlying e = some (.int .u8)) (hn : 0 < n)
    (hc : P.cellsOf t = n) (hc1 : P.cellsOf e = 1) (hv : ∃ a len cap, v = .slice a len cap) (h : DataW.trod enc P W base (fun _ => true) true fuel ts v.cells.toList = some x) :
    ∃ l : List (Arr n), Sl W v n l.length (flat l) ∧ (l = [] ∨ ∃ elems spare, x.1 = .slice elems spare ∧ elems.length = l.length) := by
  obtain ⟨ao, len, cap, rfl⟩ := hv
  rcases Deep.open_slice hs h with ⟨hcs, _⟩ | ⟨a, len', cap', m, fu, D, Pl, hcs, _, hle, _, hm, rfl, hx⟩
  · simp [Value.cells] at hcs
    obtain ⟨rfl, rfl, rfl⟩ := hcs
    exact ⟨[], Sl.nil W n, .inl rfl⟩
  · simp [Value.cells] at hcs
    obtain ⟨rfl, rfl, rfl⟩ := hcs
    simp only [if_true] at hm
    subst hm
    have key : ∀ i, i < len → ∃ y : Arr n, ∀ k u, y.cells[k]? = some u → W.cell? ((a.add (i * n)).add k) = some u := by
      intro i hi
      obtain ⟨cs', h1, h2⟩ := hx i (by omega)
      obtain ⟨y, rfl⟩ := open_bytes ht he hc hc1 h2
      obtain ⟨_, _, h3⟩ := World.cells?_some h1
      rw [hc] at h3
      exact ⟨y, fun k u hk => (h3 k (by have := (List.getElem?_eq_some_iff.1 hk).1; rwa [Arr.len] at this)).trans hk⟩
    have : Inhabited (Arr n) := ⟨Arr.zero n⟩
    obtain ⟨g, hg⟩ := Deep.choose_lt key
    refine ⟨(List.range len).map g, ?_, .inr ⟨_, _, rfl, by simp⟩⟩
    refine ⟨some a, _, by rw [List.length_map, List.length_range], by simpa using hle, flat_len _, fun j u hu => ⟨a, rfl, ?_⟩⟩
    obtain ⟨h1, h2⟩ := flat_of g len hn j u hu
    have h3 := hg _ h1 _ u h2
    rw [Deep.add_add] at h3
    rwa [show j / n * n + j % n = j by rw [Nat.mul_comm]; exact Nat.div_add_mod j n] at h3
end
end Go.Proofs.Ytgkfopodhikckaa

/- A region that draws its order and whose operations make memory: what each operation leaves holds whatever order is drawn. Over any program; no condition. -/
namespace Go.Proofs.Ytgkfopodhikckaa
open Go.RowKit
section
variable {P : Program} {ops : Array Oper}
/-- What an operation yields, and the world that it leaves. -/
def OpOK (P : Program) (o : Oper) (a : Act) (w : World) (R : Value → World → Prop) : Prop :=
  match (execOp a.eval o).run P w with
  | .ok (.value v) w' => R v w'
  | .ok .skip w' => R undef w'
  | .ok (.enter f args) w' => Calls P f args w' fun e w'' => ∃ v, e = .returned v ∧ R v w''
  | _ => False
theorem OpOK.wp {o : Oper} {a : Act} {w : World} {R : Value → World → Prop} (h : OpOK P o a w R) {K : Act → World → Prop} {Q : Exit → Act → World → Prop} (hK : ∀ v w', R v w' → K (a.put o.dst v) w') : o.wp P a w K Q := by
  unfold OpOK at h
  unfold Oper.wp
  generalize (execOp a.eval o).run P w = r at *
  cases r with
  | halt x w' => exact h.elim
  | ok n w' =>
    cases n <;> simp only [Oper.upon] <;> first | exact h.elim | exact hK _ _ h | skip
    exact Calls.mono h fun e w'' ⟨v, he, hR⟩ => by subst he; exact hK _ _ hR
/-- What operation i says of the value in its slot. -/
def SatD (ops : Array Oper) (A : Nat → Value → World → Prop) (a : Act) (w : World) (i : Nat) : Prop :=
  ∀ o, ops[i]? = some o → A i (match o.dst with | some d => a.tmps.getD d undef | none => undef) w
/-- The slots that no operation of the region writes are as they were. -/
def FrD (ops : Array Oper) (a0 a : Act) : Prop :=
  a.defers = a0.defers ∧ a.tmps.size = a0.tmps.size ∧ ∀ (t : Nat), (∀ (i : Nat) (o : Oper), ops[i]? = some o → o.dst ≠ some t) → a.tmps.getD t undef = a0.tmps.getD t undef
/-- What an operation without a slot yields is dropped. -/
def slotD (o : Oper) (v : Value) : Value := match o.dst with | some _ => v | none => undef
structure InvD (ops : Array Oper) (a0 : Act) (I : World → Prop) (A : Nat → Value → World → Prop) (listed : Array Bool) (a : Act) (w : World) : Prop where
  inv : I w
  def_ : a.defers = a0.defers
  size : a.tmps.size = a0.tmps.size
  fr : ∀ t, (∀ i o, ops[i]? = some o → listed.getD i false = true → o.dst ≠ some t) → a.tmps.getD t undef = a0.tmps.getD t undef
  sat : ∀ i, listed.getD i false = true → SatD ops A a w i
theorem InvD.frD {a0 a : Act} {I : World → Prop} {A : Nat → Value → World → Prop} {listed : Array Bool} {w : World} (h : InvD ops a0 I A listed a w) : FrD ops a0 a :=
  ⟨h.def_, h.size, fun t ht => h.fr t fun i o ho _ => ht i o ho⟩
theorem getD_put_self {a : Act} {d : Nat} {v : Value} (h : d < a.tmps.size) : (a.put (some d) v).tmps.getD d undef = v := by
  simp [Act.put, h]
theorem getD_put_ne {a : Act} {d t : Nat} {v : Value} (h : d ≠ t) : (a.put (some d) v).tmps.getD t undef = a.tmps.getD t undef := by
  simp [Act.put, Array.getElem?_setIfInBounds, h]
theorem size_put (a : Act) (d : Option Tmp) (v : Value) : (a.put d v).tmps.size = a.tmps.size := by
  cases d <;> simp [Act.put]
theorem defers_put (a : Act) (d : Option Tmp) (v : Value) : (a.put d v).defers = a.defers := by
  cases d <;> rfl
/-- The edges lead back, no slot is written twice, each slot is one of the frame's. -/
def shapeD (n : Nat) (ops : Array Oper) : Bool :=
  ((List.range ops.size).all fun i => ((ops[i]?).map fun (o : Oper) => (o.after.toList.all fun e => !Region.binds .any e || decide (e.on < i)) && (match o.dst with | some d => decide (d < n) | none => true)).getD true) &&
  ((List.range ops.size).all fun i => (List.range ops.size).all fun j => decide (i = j) || (match (ops[i]?).bind Oper.dst, (ops[j]?).bind Oper.dst with | some d, some d' => decide (d ≠ d') | _, _ => true))
theorem shapeD_back {n : Nat} (h : shapeD n ops = true) {i : Nat} {o : Oper} (ho : ops[i]? = some o) : ∀ e ∈ o.after, Region.binds .any e = true → e.on < i := by
  have hi : i < ops.size := (Array.getElem?_eq_some_iff.1 ho).1
  simp only [shapeD, Bool.and_eq_true, List.all_eq_true, List.mem_range] at h
  have h1 := h.1 i hi
  rw [ho] at h1
  simp only [Option.map_some, Option.getD_some, Bool.and_eq_true, List.all_eq_true, decide_eq_true_eq, Bool.or_eq_true, Bool.not_eq_true'] at h1
  intro e he hb
  rcases h1.1 e (Array.mem_toList_iff.2 he) with h2 | h2
  · rw [hb] at h2; cases h2
  · exact h2
theorem shapeD_lt {n : Nat} (h : shapeD n ops = true) {i d : Nat} {o : Oper} (ho : ops[i]? = some o) (hd : o.dst = some d) : d < n := by
  have hi : i < ops.size := (Array.getElem?_eq_some_iff.1 ho).1
  simp only [shapeD, Bool.and_eq_true, List.all_eq_true, List.mem_range] at h
  have h1 := h.1 i hi
  rw [ho] at h1
  simp only [Option.map_some, Option.getD_some, Bool.and_eq_true, hd, decide_eq_true_eq] at h1
  exact h1.2
theorem shapeD_ne {n : Nat} (h : shapeD n ops = true) {i j d : Nat} {o o' : Oper} (ho : ops[i]? = some o) (ho' : ops[j]? = some o') (hij : i ≠ j) (hd : o.dst = some d) : o'.dst ≠ some d := by
  have hi : i < ops.size := (Array.getElem?_eq_some_iff.1 ho).1
  have hj : j < ops.size := (Array.getElem?_eq_some_iff.1 ho').1
  simp only [shapeD, Bool.and_eq_true, List.all_eq_true, List.mem_range] at h
  have h1 := h.2 i hi j hj
  intro e
  simp [ho, ho', hd, e, hij] at h1
theorem getD_set_self {l : Array Bool} {i : Nat} (h : i < l.size) (b : Bool) : (l.setIfInBounds i true).getD i b = true := by simp [h]
theorem getD_set_ne' {l : Array Bool} {i j : Nat} (h : i ≠ j) (b : Bool) : (l.setIfInBounds i true).getD j b = l.getD j b := by
  simp [Array.getElem?_setIfInBounds, h]
theorem wpAny_D {Q : Exit → Act → World → Prop} {a0 : Act} {I : World → Prop} {A : Nat → Value → World → Prop} {G : Nat → World → World → Prop} (hsh : shapeD a0.tmps.size ops = true)
    (hst : ∀ i j, i ≠ j → ∀ v w w', G i w w' → A j v w → A j v w')
    (hstep : ∀ i o, ops[i]? = some o → ∀ a w, I w → FrD ops a0 a → (∀ e ∈ o.after, Region.binds .any e = true → SatD ops A a w e.on) →
      if Region.wanted o (yielded ops a.tmps) then OpOK P o a w (fun v w' => I w' ∧ G i w w' ∧ A i (slotD o v) w') else A i undef w)
    (hend : ∀ a w, I w → FrD ops a0 a → (∀ i, i < ops.size → SatD ops A a w i) → Q .normal a w) :
    ∀ (fuel : Nat) (listed : Array Bool) (a : Act) (w : World), listed.size = ops.size → listed.toList.count false ≤ fuel → InvD ops a0 I A listed a w → wpAny P .any ops Q fuel listed a w := by
  have hall : ∀ (listed : Array Bool), listed.size = ops.size → Region.ready .any ops listed = [] → ∀ i, i < ops.size → listed.getD i false = true := by
    intro listed hsz hr i
    induction i using Nat.strongRecOn with
    | ind i ih =>
      intro hi
      by_cases h : listed.getD i false = true
      · exact h
      · exfalso
        have hm : i ∈ Region.ready .any ops listed := by
          refine mem_ready.2 ⟨?_, ops[i], by simp [hi], fun e he hb => ?_⟩
          · simp [hsz, hi] at h ⊢; exact h
          · have := shapeD_back hsh (i := i) (o := ops[i]) (by simp [hi]) e he hb
            exact ih e.on this (by omega)
        rw [hr] at hm
        cases hm
  intro fuel
  induction fuel with
  | zero =>
    intro listed a w hsz hc hinv
    have hnone : ∀ i, i < ops.size → listed.getD i false = true := by
      intro i hi
      have hi' : i < listed.size := by omega
      have hb : listed[i] ≠ false := by
        intro e
        have : false ∈ listed.toList := by rw [← e]; simp
        have := List.count_pos_iff.2 this
        omega
      simp [hi', hb]
    refine ⟨?_, hend a w hinv.inv hinv.frD fun i hi => hinv.sat i (hnone i hi)⟩
    rw [List.eq_nil_iff_forall_not_mem]
    intro j hj
    obtain ⟨h1, o, ho, _⟩ := mem_ready.1 hj
    have hlt : j < ops.size := (Array.getElem?_eq_some_iff.1 ho).1
    have h2 := hnone j hlt
    have hj' : j < listed.size := by omega
    simp [hj'] at h1 h2
    rw [h1] at h2
    cases h2
  | succ fuel ih =>
    intro listed a w hsz hc hinv
    refine ⟨fun hr => hend a w hinv.inv hinv.frD fun i hi => hinv.sat i (hall listed hsz hr i hi), fun i hi => ?_⟩
    obtain ⟨h1, o, ho, hdeps⟩ := mem_ready.1 hi
    have hlt : i < ops.size := (Array.getElem?_eq_some_iff.1 ho).1
    have hlt' : i < listed.size := by omega
    have hfalse : listed[i] = false := by simpa [hlt'] using h1
    have hs := hstep i o ho a w hinv.inv hinv.frD fun e he hb => hinv.sat e.on (hdeps e he hb)
    have hcount : (listed.setIfInBounds i true).toList.count false ≤ fuel := by
      rw [Array.toList_setIfInBounds, List.count_set (by simpa using hlt')]
      have : false ∈ listed.toList := by rw [← hfalse]; simp
      have := List.count_pos_iff.2 this
      have e1 : listed.toList[i]'(by simpa using hlt') = false := by simpa using hfalse
      rw [e1]
      have e2 : ((true : Bool) == false) = false := rfl
      simp only [beq_self_eq_true, if_true, e2, Bool.false_eq_true, if_false]
      omega
    have next : ∀ v w', I w' → (w' = w ∨ G i w w') → A i (slotD o v) w' → InvD ops a0 I A (listed.setIfInBounds i true) (a.put o.dst v) w' := by
      intro v w' hI hG hA
      refine ⟨hI, by rw [defers_put]; exact hinv.def_, by rw [size_put]; exact hinv.size, ?_, ?_⟩
      · intro t ht
        have hne : o.dst ≠ some t := ht i o ho (getD_set_self hlt' false)
        have e1 : (a.put o.dst v).tmps.getD t undef = a.tmps.getD t undef := by
          cases hd : o.dst with
          | none => rfl
          | some d => exact getD_put_ne (by intro e; exact hne (by rw [hd, e]))
        rw [e1]
        exact hinv.fr t fun j oj hj hlj => by
          by_cases hij : i = j
          · subst hij; rw [ho] at hj; cases hj; exact hne
          · exact ht j oj hj (by rw [getD_set_ne' hij]; exact hlj)
      · intro j hj
        by_cases hij : i = j
        · subst hij
          intro oj hoj
          rw [ho] at hoj; cases hoj
          unfold slotD at hA
          cases hd : o.dst with
          | none => rw [hd] at hA; exact hA
          | some d =>
            have hdl : d < a.tmps.size := by rw [hinv.size]; exact shapeD_lt hsh ho hd
            simp only [getD_put_self hdl]
            rw [hd] at hA
            exact hA
        · rw [getD_set_ne' hij] at hj
          intro oj hoj
          have h3 := hinv.sat j hj oj hoj
          have hval : (match oj.dst with | some d => (a.put o.dst v).tmps.getD d undef | none => undef) = (match oj.dst with | some d => a.tmps.getD d undef | none => undef) := by
            cases hd : o.dst with
            | none => rfl
            | some d =>
              cases hdj : oj.dst with
              | none => rfl
              | some d' =>
                have := shapeD_ne hsh ho hoj hij hd
                rw [hdj] at this
                exact getD_put_ne (by intro e; exact this (by rw [e]))
          rw [hval]
          rcases hG with rfl | hG
          · exact h3
          · exact hst i j hij _ _ _ hG h3
    unfold wpOp
    simp only [ho]
    by_cases hw : Region.wanted o (yielded ops a.tmps) = true
    · rw [if_pos hw] at hs ⊢
      exact .inl (hs.wp fun v w' ⟨hI, hG, hA⟩ => ih _ _ _ (by simpa using hsz) hcount (next v w' hI (.inr hG) hA))
    · rw [if_neg hw] at hs ⊢
      exact ih _ _ _ (by simpa using hsz) hcount (next undef w hinv.inv (.inl rfl) (by unfold slotD; split <;> exact hs))
/-- The frame behind the region: the operations' slots hold these values. -/
def putsD (a : Act) : List Oper → List Value → Act
  | o :: os, v :: vs => putsD (a.put o.dst v) os vs
  | _, _ => a
theorem putsD_get : ∀ (l : List Oper) (vs : List Value) (a : Act) (t : Nat), l.length = vs.length → (∀ o ∈ l, o.dst ≠ some t) → (putsD a l vs).tmps.getD t undef = a.tmps.getD t undef
  | [], [], _, _, _, _ => rfl
  | o :: l, v :: vs, a, t, hl, h => by
    rw [putsD, putsD_get l vs _ t (by simpa using hl) fun o' ho' => h o' (List.mem_cons_of_mem _ ho')]
    have h0 := h o (by simp)
    cases hd : o.dst with
    | none => rfl
    | some d => exact getD_put_ne (by intro e; exact h0 (by rw [hd, e]))
theorem putsD_size : ∀ (l : List Oper) (vs : List Value) (a : Act), (putsD a l vs).tmps.size = a.tmps.size
  | [], _, _ => by simp [putsD]
  | _ :: _, [], _ => by simp [putsD]
  | o :: l, v :: vs, a => by rw [putsD, putsD_size l vs, size_put]
theorem putsD_defers : ∀ (l : List Oper) (vs : List Value) (a : Act), (putsD a l vs).defers = a.defers
  | [], _, _ => by simp [putsD]
  | _ :: _, [], _ => by simp [putsD]
  | o :: l, v :: vs, a => by rw [putsD, putsD_defers l vs, defers_put]
theorem putsD_at (l : List Oper) : ∀ (vs : List Value) (a : Act) (i d : Nat) (o : Oper) (v : Value), l.length = vs.length → l[i]? = some o → vs[i]? = some v → o.dst = some d → d < a.tmps.size →
    (∀ j o', j ≠ i → l[j]? = some o' → o'.dst ≠ some d) → (putsD a l vs).tmps.getD d undef = v := by
  induction l with
  | nil => intro vs a i d o v _ ho; simp at ho
  | cons o' l ih =>
    intro vs a i d o v hl ho hv hd hlt hne
    cases vs with
    | nil => simp at hv
    | cons v' vs =>
      rw [putsD]
      cases i with
      | zero =>
        simp only [List.getElem?_cons_zero, Option.some.injEq] at ho hv
        subst ho hv
        rw [putsD_get l vs _ d (by simpa using hl) fun o'' ho'' => by
          obtain ⟨j, hj, e⟩ := List.mem_iff_getElem.1 ho''
          exact hne (j + 1) o'' (by omega) (by rw [List.getElem?_cons_succ, List.getElem?_eq_getElem hj, e])]
        rw [hd]
        exact getD_put_self hlt
      | succ i =>
        exact ih vs _ i d o v (by simpa using hl) (by simpa using ho) (by simpa using hv) hd (by rw [size_put]; exact hlt) fun j o'' hj ho'' => hne (j + 1) o'' (by omega) (by simpa using ho'')
theorem wpAny_start {l : List Oper} {Q : Exit → Act → World → Prop} {a0 : Act} {w0 : World} (I : World → Prop) (A : Nat → Value → World → Prop) (G : Nat → World → World → Prop)
    (hsh : shapeD a0.tmps.size l.toArray = true) (hI : I w0.drew)
    (hst : ∀ i j, i ≠ j → ∀ v w w', G i w w' → A j v w → A j v w')
    (hstep : ∀ i o, l[i]? = some o → ∀ a w, I w → FrD l.toArray a0 a → (∀ e ∈ o.after, Region.binds .any e = true → SatD l.toArray A a w e.on) →
      if Region.wanted o (yielded l.toArray a.tmps) then OpOK P o a w (fun v w' => I w' ∧ G i w w' ∧ A i (slotD o v) w') else A i undef w)
    (hend : ∀ (vs : List Value) w, vs.length = l.length → I w → (∀ i v, vs[i]? = some v → A i v w) → Q .normal (putsD a0 l vs) w) : wpAny P .any l.toArray Q l.toArray.size (Array.replicate l.toArray.size false) a0 w0.drew := by
  refine wpAny_D (I := I) (A := A) (G := G) hsh hst (fun i o ho => hstep i o (by simpa using ho)) ?_ _ _ _ _ (by simp) ?_ ⟨hI, rfl, rfl, fun _ _ => rfl, fun i hi => ?_⟩
  · intro a w hIw hF hS
    let vs : List Value := l.map fun (o : Oper) => match o.dst with | some d => a.tmps.getD d undef | none => undef
    have hvl : vs.length = l.length := by simp [vs]
    have ha : a = putsD a0 l vs := by
      have h1 : a.tmps = (putsD a0 l vs).tmps := by
        apply Array.ext
        · rw [putsD_size, hF.2.1]
        · intro t ht1 ht2
          have key : a.tmps.getD t undef = (putsD a0 l vs).tmps.getD t undef := by
            by_cases hex : ∃ (i : Nat) (o : Oper), l[i]? = some o ∧ o.dst = some t
            · obtain ⟨i, o, ho, hd⟩ := hex
              have hlt : t < a0.tmps.size := shapeD_lt hsh (i := i) (o := o) (by simpa using ho) hd
              refine (putsD_at l vs a0 i t o (a.tmps.getD t undef) hvl.symm ho ?_ hd hlt fun j o' hj ho' => ?_).symm
              · simp [vs, ho, hd]
              · exact shapeD_ne hsh (i := i) (j := j) (o := o) (o' := o') (by simpa using ho) (by simpa using ho') (Ne.symm hj) hd
            · rw [putsD_get l vs a0 t hvl.symm fun o ho hd => hex ?_]
              · exact hF.2.2 t fun i o ho hd => hex ⟨i, o, by simpa using ho, hd⟩
              · obtain ⟨j, hj, e⟩ := List.mem_iff_getElem.1 ho
                exact ⟨j, o, by rw [List.getElem?_eq_getElem hj, e], hd⟩
          simpa [ht1, ht2] using key
      have h2 : a.defers = (putsD a0 l vs).defers := by rw [putsD_defers, hF.1]
      cases a
      generalize hp : putsD a0 l vs = b at *
      cases b
      simp_all
    rw [ha]
    refine hend vs w hvl hIw fun i v hv => ?_
    have hi : i < l.length := by rw [← hvl]; exact (List.getElem?_eq_some_iff.1 hv).1
    have h3 := hS i (by simpa using hi) l[i] (by simp [hi])
    have h4 : v = (match l[i].dst with | some d => a.tmps.getD d undef | none => undef) := by
      simp only [vs, List.getElem?_map, List.getElem?_eq_getElem hi, Option.map_some, Option.some.injEq] at hv
      exact hv.symm
    rw [h4]
    exact h3
  · rw [Array.toList_replicate, List.count_replicate_self]; exact Nat.le_refl _
  · exfalso
    rw [Array.getD_eq_getD_getElem?, Array.getElem?_replicate] at hi
    split at hi <;> simp at hi
end
end Go.Proofs.Ytgkfopodhikckaa

/- A region that draws its order, by what each slot holds behind it: plain values, rows of the call's own. Over any program; no condition. -/
namespace Go.Proofs.Ytgkfopodhikckaa
open Go.RowKit
section
variable {P : Program} {ρ : Operand → Value} {dst : Option Tmp} {ty : TypeId} {pos : String} {after : Array Edge} {guard : Option (Nat × Bool)}
theorem ex_move {x : Operand} {v : Value} (hx : ρ x = v) (w : World) : (execOp ρ { dst := dst, op := .move x, type := ty, pos := pos, after := after, guard := guard }).run P w = .ok (.value v) w := by
  simp only [execOp, hx, Sem.run_pure]
theorem ex_assign {x : Operand} {v : Value} (hx : ρ x = v) (w : World) : (execOp ρ { dst := dst, op := .assign x, type := ty, pos := pos, after := after, guard := guard }).run P w = .ok (.value v) w := by
  simp only [execOp, hx, Sem.run_pure]
theorem ex_pick {c x y : Operand} {b : Bool} {v : Value} (hc : ρ c = .bool b) (hv : (if b then ρ x else ρ y) = v) (w : World) : (execOp ρ { dst := dst, op := .pick c x y, type := ty, pos := pos, after := after, guard := guard }).run P w = .ok (.value v) w := by
  simp only [execOp, hc, asBool, Sem.run_bind, Sem.run_pure, Result.andThen_ok, hv]
theorem ex_index {t e : TypeId} {sz bytes : Nat} (hE : Elem P t e sz bytes) {x i : Operand} {ad : Addr} {n c j : Nat} {q : Int} {k : IntKind} (hx : ρ x = .slice (some ad) n c) (hi : ρ i = .int k q) (hq : q = (j : Int)) (hj : j < n) (w : World) :
    (execOp ρ { dst := dst, op := .indexAddr t x i, type := ty, pos := pos, after := after, guard := guard }).run P w = .ok (.value (.pointer (some (ad.add (j * sz))))) w := by
  subst hq
  obtain ⟨ht, hsz, _, ii, z, hi', _, hsize, _, _⟩ := hE
  have h2 : ∀ w, (sizeOf e).run P w = .ok sz w := run_sizeOf (by rw [hi']; simp [hsize])
  have hc : (0 : Int) ≤ (j : Int) ∧ (j : Int) < n := by omega
  simp only [execOp, hx, hi, Instr.indexAt, asIntOf, Sem.run_bind, Sem.run_pure, Result.andThen_ok, run_underlying ht, h2, hc, and_self, if_true, Int.toNat_natCast]
theorem ex_len {t e : TypeId} (ht : P.underlying t = some (.slice e)) {x : Operand} {ao : Option Addr} {n c : Nat} (hx : ρ x = .slice ao n c) (w : World) :
    (execOp ρ { dst := dst, op := .call { callee := .builtin .len, args := #[x], argTypes := #[t] }, type := ty, pos := pos, after := after, guard := guard }).run P w = .ok (.value (.int .i64 n)) w := by
  rw [BigFrame.execOp_builtin, BigFrame.builtin_len]
  simp [hx, Builtin.len_, run_underlying ht, goInt]
theorem ex_cmp {op : BinOp} {t yt : TypeId} {x y : Operand} {k : IntKind} {p q : Int} {b : Bool} (ho : isCmp op = true) (hx : ρ x = .int k p) (hy : ρ y = .int k q) (hb : cmpB op p q = b) (w : World) :
    (execOp ρ { dst := dst, op := .binOp op t x y yt, type := ty, pos := pos, after := after, guard := guard }).run P w = .ok (.value (.bool b)) w := by
  simp only [execOp, hx, hy, Sem.run_bind, eqGuard_at_int, Sem.run_pure, Result.andThen_ok, run_cmp ho, hb]
theorem ex_arith {op : BinOp} {t yt : TypeId} {x y : Operand} {k : IntKind} {p q r : Int} (ho : isArith op = true) (hx : ρ x = .int k p) (hy : ρ y = .int k q) (hr : k.wrap (arithI op p q) = r) (w : World) :
    (execOp ρ { dst := dst, op := .binOp op t x y yt, type := ty, pos := pos, after := after, guard := guard }).run P w = .ok (.value (.int k r)) w := by
  have he : ∀ u v, eqGuard op t x y u v = pure () := by intro u v; cases op <;> simp [isArith] at ho <;> rfl
  simp only [execOp, hx, hy, Sem.run_bind, he, Sem.run_pure, Result.andThen_ok, run_arith ho, hr]
theorem ex_not {t : TypeId} {x : Operand} {b : Bool} (hx : ρ x = .bool b) (w : World) : (execOp ρ { dst := dst, op := .unOp .not t x, type := ty, pos := pos, after := after, guard := guard }).run P w = .ok (.value (.bool !b)) w := by
  simp [execOp, hx, Op.unary]
/-- x[k:] -/
theorem ex_slice_from {t e : TypeId} {sz bytes : Nat} (hE : Elem P t e sz bytes) {x lo : Operand} {ao : Option Addr} {n c j : Nat} {q : Int} {k : IntKind} (hx : ρ x = .slice ao n c) (hi : ρ lo = .int k q) (hq : q = (j : Int)) (hj : j ≤ n) (w : World) :
    (execOp ρ { dst := dst, op := .slice t x (some lo) none none, type := ty, pos := pos, after := after, guard := guard }).run P w = .ok (.value (.slice (if c = j then ao else ao.map (·.add (j * sz))) (n - j) (c - j))) w := by
  subst hq
  obtain ⟨ht, hsz, _, ii, z, hi', _, hsize, _, _⟩ := hE
  have h2 : ∀ w, (sizeOf e).run P w = .ok sz w := run_sizeOf (by rw [hi']; simp [hsize])
  have hc : (0 : Int) ≤ (j : Int) ∧ (j : Int) ≤ n := by omega
  simp [execOp, hx, hi, Instr.sliceAt, Instr.slice, Instr.sliceBounds, Instr.sliceBound, asIntOf, run_underlying ht, h2, hj]
end
theorem Sl.drop {w : World} {ao : Option Addr} {n c sz j : Nat} {cs : List Value} (h : Sl w (.slice ao n c) sz n cs) (hj : j ≤ n) : Sl w (.slice (if c = j then ao else ao.map (·.add (j * sz))) (n - j) (c - j)) sz (n - j) (cs.drop (j * sz)) := by
  obtain ⟨ao', cap, e, hc, hl, hcell⟩ := h
  simp only [Value.slice.injEq, true_and] at e
  obtain ⟨rfl, rfl⟩ := e
  refine ⟨_, _, rfl, by omega, by rw [List.length_drop, hl, Nat.sub_mul], fun i u hu => ?_⟩
  rw [List.getElem?_drop] at hu
  obtain ⟨a, ha, h⟩ := hcell _ _ hu
  subst ha
  have hlt : j * sz + i < n * sz := by
    have := (List.getElem?_eq_some_iff.1 hu).1
    omega
  have hne : c ≠ j := by
    intro e
    have : n = j := by omega
    subst this
    omega
  rw [if_neg hne]
  refine ⟨_, rfl, ?_⟩
  have e2 : (a.add (j * sz)).add i = a.add (j * sz + i) := by
    unfold Addr.add; split <;> split <;> simp_all <;> omega
  rw [e2]
  exact h

theorem Sl.dropm {w : World} {ao : Option Addr} {n c sz j : Nat} {cs : List Value} (h : Sl w (.slice ao n c) sz n cs) (hj : j < n) : Sl w (.slice (ao.map (·.add (j * sz))) (n - j) (c - j)) sz (n - j) (cs.drop (j * sz)) := by
  have := h.drop (j := j) (by omega)
  rwa [if_neg (by have := h.cap.2; omega)] at this

structure Asr where
  p : Value → World → Prop
  st : ∀ v w w', p v w → Below w.heap.size w w' → p v w'
def Asr.is (u : Value) : Asr := ⟨fun v _ => v = u, fun _ _ _ h _ => h⟩
def Asr.any : Asr := ⟨fun _ _ => True, fun _ _ _ _ _ => trivial⟩
theorem ownsRow_below {w w' : World} {base : Nat} {e : TypeId} {sz n : Nat} {v : Value} {xs : List Value} (h : w.ownsRow base e sz v n xs) (hb : Below w.heap.size w w') : w'.ownsRow base e sz v n xs := by
  refine ⟨h.1, ?_⟩
  rcases h.2 with hn | ⟨g, cap, cur, hv, hgb, hh, rest⟩
  · exact .inl hn
  · exact .inr ⟨g, cap, cur, hv, hgb, (hb.block g (Array.getElem?_eq_some_iff.1 hh).1).trans hh, rest⟩
/-- A row that the region has made. -/
def Asr.row (base : Nat) (e : TypeId) (sz n : Nat) (xs : List Value) : Asr := ⟨fun v w => w.ownsRow base e sz v n xs, fun _ _ _ h hb => ownsRow_below h hb⟩
/-- A row that is full. -/
def Asr.full (base : Nat) (e : TypeId) (sz n : Nat) (xs : List Value) : Asr := ⟨fun v w => (∃ ao, v = .slice ao n n) ∧ w.ownsRow base e sz v n xs, fun _ _ _ h hb => ⟨h.1, ownsRow_below h.2 hb⟩⟩
def Asr.sl (sz n : Nat) (cs : List Value) : Asr := ⟨fun v w => Sl w v sz n cs, fun _ _ _ h hb => h.below hb⟩
theorem OpOK.mono {P : Program} {o : Oper} {a : Act} {w : World} {R R' : Value → World → Prop} (h : OpOK P o a w R) (hR : ∀ v w', R v w' → R' v w') : OpOK P o a w R' := by
  unfold OpOK at *
  generalize (execOp a.eval o).run P w = r at *
  cases r with
  | halt x w' => exact h.elim
  | ok n w' =>
    cases n <;> first | exact h.elim | exact hR _ _ h | skip
    exact Calls.mono h fun e w'' ⟨v, he, hr⟩ => ⟨v, he, hR _ _ hr⟩
/-- Each by its place. -/
def eachD (X : Nat → Oper → Prop) : Nat → List Oper → Prop
  | _, [] => True
  | i, o :: r => X i o ∧ eachD X (i + 1) r
theorem eachD_get (X : Nat → Oper → Prop) : ∀ (l : List Oper) (k : Nat), eachD X k l → ∀ i o, l[i]? = some o → X (k + i) o
  | [], _, _, i, o, h => by simp at h
  | o' :: l, k, h, i, o, ho => by
    cases i with
    | zero => simp only [List.getElem?_cons_zero, Option.some.injEq] at ho; subst ho; exact h.1
    | succ i =>
      have := eachD_get X l (k + 1) h.2 i o (by simpa using ho)
      rw [show k + 1 + i = k + (i + 1) by omega] at this
      exact this
/-- What holds behind the region: the slots' values, one by one. -/
def endD (w : World) : List Asr → (List Value → Prop) → Prop
  | [], Q => Q []
  | A :: L, Q => ∀ v, A.p v w → endD w L fun vs => Q (v :: vs)
theorem endD_get {w : World} : ∀ (L : List Asr) (Q : List Value → Prop), endD w L Q → ∀ vs : List Value, vs.length = L.length → (∀ i v, vs[i]? = some v → (L.getD i Asr.any).p v w) → Q vs
  | [], Q, h, vs, hl, _ => by
    have : vs = [] := List.eq_nil_of_length_eq_zero (by simpa using hl)
    subst this; exact h
  | A :: L, Q, h, vs, hl, hs => by
    cases vs with
    | nil => simp at hl
    | cons v vs =>
      exact endD_get L (fun vs => Q (v :: vs)) (h v (hs 0 v rfl)) vs (by simpa using hl) fun i u hu => by
        have := hs (i + 1) u (by simpa using hu)
        simpa using this
/-- What operation i of the region has to show. -/
def ShowD (P : Program) (l : List Oper) (a0 : Act) (I : World → Prop) (L : List Asr) (i : Nat) (o : Oper) : Prop :=
  ∀ a w, I w → FrD l.toArray a0 a → (∀ e ∈ o.after, Region.binds .any e = true → SatD l.toArray (fun i => (L.getD i Asr.any).p) a w e.on) →
    if Region.wanted o (yielded l.toArray a.tmps) then OpOK P o a w (fun v w' => Below w.heap.size w w' ∧ (L.getD i Asr.any).p (slotD o v) w') else (L.getD i Asr.any).p undef w
theorem eachD_nil {X : Nat → Oper → Prop} {i : Nat} : eachD X i [] := trivial
theorem eachD_cons {X : Nat → Oper → Prop} {i : Nat} {o : Oper} {r : List Oper} (h : X i o) (t : eachD X (i + 1) r) : eachD X i (o :: r) := ⟨h, t⟩
def notDst (t : Tmp) (l : List Oper) : Bool := l.all fun o => match o.dst with | some d => decide (d ≠ t) | none => true
theorem notDst_of {t : Tmp} {l : List Oper} (h : notDst t l = true) : ∀ (i : Nat) (o : Oper), l.toArray[i]? = some o → o.dst ≠ some t := by
  intro i o ho e
  have hm : o ∈ l := List.mem_of_getElem? (by simpa using ho)
  have := List.all_eq_true.1 h o hm
  rw [e] at this
  simp at this
theorem wantD {o : Oper} {y : Nat → Option Bool} {p q : Prop} (hw : Region.wanted o y = true) (h : p) : if Region.wanted o y = true then p else q := by rw [if_pos hw]; exact h
theorem wanted_of {ops : Array Oper} {a : Act} {o : Oper} {j : Nat} {d : Tmp} {b want r : Bool} (hg : o.guard = some (j, want)) (hd : (ops[j]?).bind (·.dst) = some d) (hv : a.eval (.tmp d) = .bool b) (hr : (b == want) = r) :
    Region.wanted o (yielded ops a.tmps) = r := by
  have hy : yielded ops a.tmps j = some b := by
    unfold yielded
    rw [hd]
    simp only [Act.eval, Array.getD_eq_getD_getElem?] at hv
    cases h : a.tmps[d]? with
    | none => rw [h] at hv; exact absurd hv (by unfold undef; simp)
    | some u => rw [h] at hv; simp only [Option.getD_some] at hv; subst hv; simp [h]
  unfold Region.wanted
  rw [hg]
  simp only [hy]
  subst hr
  cases b <;> cases want <;> rfl
section
variable {P : Program} {w0 w : World} {S : List Nat} {bs : List (Nat × Obj)} {rows : List Row} {a0 : Act} {Q : Exit → Act → World → Prop}
theorem wpAny_R {l : List Oper} (L : List Asr) (hH : Holds w0 S bs rows w) (hsh : shapeD a0.tmps.size l.toArray = true) (hlen : L.length = l.length)
    (hstep : eachD (ShowD P l a0 (fun w' => Holds w0 S bs rows w' ∧ Below w.heap.size w w') L) 0 l)
    (hend : ∀ w', Holds w0 S bs rows w' → Below w.heap.size w w' → endD w' L fun vs => Q .normal (putsD a0 l vs) w') : wpAny P .any l.toArray Q l.toArray.size (Array.replicate l.toArray.size false) a0 w.drew := by
  refine wpAny_start (fun w' => Holds w0 S bs rows w' ∧ Below w.heap.size w w') (fun i => (L.getD i Asr.any).p) (fun _ w w' => Below w.heap.size w w') hsh ⟨hH.drew, below_drew w⟩ ?_ ?_ ?_
  · intro i j _ v w w' hb hA
    exact (L.getD j Asr.any).st v w w' hA hb
  · intro i o ho a w1 hI hF hS
    have h := eachD_get _ l 0 hstep i o ho a w1 hI hF hS
    rw [Nat.zero_add] at h
    split
    · rename_i hw
      rw [if_pos hw] at h
      exact h.mono fun v w' h => ⟨⟨hI.1.grow h.1, hI.2.trans (h.1.mono hI.2.size)⟩, h⟩
    · rename_i hw
      rw [if_neg hw] at h
      exact h
  · intro vs w' hl hI hA
    exact endD_get L _ (hend w' hI.1 hI.2) vs (by rw [hl, hlen]) hA
/-- A plain operation. -/
theorem op_val {o : Oper} {a : Act} {v : Value} {A : Value → World → Prop} {d : Tmp} (hd : o.dst = some d) (hr : (execOp a.eval o).run P w = .ok (.value v) w) (hA : A v w) :
    OpOK P o a w (fun v w' => Below w.heap.size w w' ∧ A (slotD o v) w') := by
  unfold OpOK; rw [hr]
  refine ⟨Below.refl _ _, ?_⟩
  unfold slotD; rw [hd]; exact hA
theorem op_new {o : Oper} {a : Act} {v : Value} {w' : World} {A : Value → World → Prop} {d : Tmp} (hd : o.dst = some d) (hr : (execOp a.eval o).run P w = .ok (.value v) w') (hb : Below w.heap.size w w') (hA : A v w') :
    OpOK P o a w (fun v w' => Below w.heap.size w w' ∧ A (slotD o v) w') := by
  unfold OpOK; rw [hr]
  refine ⟨hb, ?_⟩
  unfold slotD; rw [hd]; exact hA
theorem op_call {f : FuncId} (hf : Body P f) {a : Act} {d : Tmp} {ty : TypeId} {pos : String} {after : Array Edge} {guard : Option (Nat × Bool)} {xs : Array Operand} {ats : Array TypeId} {args : Array Value} {A : Value → World → Prop} (ha : (xs.toList.map a.eval).toArray = args)
    (hc : Calls P f args w fun e w' => ∃ v, e = .returned v ∧ Below w.heap.size w w' ∧ A v w') :
    OpOK P { dst := some d, op := .call { callee := .value (.func f), args := xs, argTypes := ats }, type := ty, pos := pos, after := after, guard := guard } a w (fun v w' => Below w.heap.size w w' ∧ A (slotD { dst := some d, op := .call { callee := .value (.func f), args := xs, argTypes := ats }, type := ty, pos := pos, after := after, guard := guard } v) w') := by
  unfold OpOK
  rw [ex_call hf (args := args) (by rw [← ha, ← Array.toList_map, Array.toArray_toList]) w]
  exact hc
end
section
variable {P : Program} {w : World} {ρ : Operand → Value} {dst : Option Tmp} {ty : TypeId} {pos : String} {after : Array Edge} {guard : Option (Nat × Bool)}
/-- A literal's row. -/
theorem ex_buildArr {t e : TypeId} {sz bytes : Nat} (hE : Elem P t e sz bytes) (l : List (Arr sz)) {parts : Array (Nat × Operand)} {n : Nat}
    (hn : n = l.length) (hp : (parts.toList.map fun p => (p.1, ρ p.2)) = ((l.map Arr.val).zipIdx 0).map fun p => (p.2, p.1)) (hb : n * sz ≤ 16777216) (w : World) :
    ∃ v w', (execOp ρ { dst := dst, op := .buildSlice t n parts, type := ty, pos := pos, after := after, guard := guard }).run P w = .ok (.value v) w' ∧ Below w.heap.size w w' ∧
      ∀ base, base ≤ w.heap.size → (∃ ao, v = .slice ao n n) ∧ w'.ownsRow base e sz v n (flat l) := by
  have hv : ∀ v ∈ l.map Arr.val, v.cells.size = sz := by
    intro v hv
    obtain ⟨x, _, rfl⟩ := List.mem_map.1 hv
    simp [Arr.val, Value.cells, Arr.len]
  have h := run_buildSlice (P := P) hE (l.map Arr.val) hv (by simpa [← hn] using hb) w
  have hx : (l.map Arr.val).flatMap (·.cells.toList) = flat l := by rw [List.flatMap_map]; rfl
  rw [hx, List.length_map, ← hn] at h
  have hb2 : n * 1 ≤ n * sz := Nat.mul_le_mul_left _ hE.2.1
  refine ⟨_, w.alloc (.cells (flat l).toArray e), ?_, below_alloc w _, fun base hbase => ⟨⟨_, rfl⟩, by rw [flat_len, ← hn], .inr ⟨w.heap.size, n, _, rfl, hbase, heap_alloc_new w _, Nat.le_refl _, by unfold maxLen; omega, ?_, ?_⟩⟩⟩
  · simp only [execOp, Sem.run_bind]
    rw [show (parts.map fun x => match x with | (i, y) => (i, ρ y)) = (parts.toList.map fun p => (p.1, ρ p.2)).toArray by rw [← Array.toList_map, Array.toArray_toList], hp, h]
    rfl
  · simp [flat_len, ← hn]
  · rw [hn, ← flat_len, List.take_length]
end
end Go.Proofs.Ytgkfopodhikckaa

/- Results that lie in variables of the call's own. Over any program. No condition. -/
namespace Go.Proofs.Ytgkfopodhikckaa
open Go.RowKit
section
variable {P : Program} {w w0 : World} {S : List Nat} {bs : List (Nat × Obj)} {rows : List Row}
/-- What one result's slot gives. -/
def ResAt (P : Program) (w : World) (tmps : Array Value) (r : ResultVar) (v : Value) : Prop :=
  match r with
  | .tmp t => tmps.getD t undef = v
  | .cell a t => ∃ ad, tmps.getD a undef = .pointer (some ad) ∧ (loadVar t ad).run P w = .ok v w
def resOne (tmps : Array Value) (r : ResultVar) : Sem Value :=
  match r with
  | .tmp t => pure (tmps.getD t undef)
  | .cell a t => do loadVar t (← asAddr (tmps.getD a undef))
theorem run_resOne {tmps : Array Value} {r : ResultVar} {v : Value} (h : ResAt P w tmps r v) : (resOne tmps r).run P w = .ok v w := by
  cases r with
  | tmp t => simp only [ResAt] at h; simp [resOne, h]
  | cell a t =>
    obtain ⟨ad, h1, h2⟩ := h
    simp [resOne, h1, asAddr, h2]
theorem results_eq (fn : Func) (tmps : Array Value) : results fn tmps = (do let vs ← fn.results.mapM (resOne tmps); pure (if h : vs.size = 1 then vs[0] else .tuple vs)) := by
  unfold results
  congr 1
theorem res1 {fn : Func} {tmps : Array Value} {r1 : ResultVar} {v1 : Value} (h : fn.results = #[r1]) (h1 : ResAt P w tmps r1 v1) : (results fn tmps).run P w = .ok v1 w := by
  rw [results_eq, h]
  simp [run_resOne h1]
theorem res2 {fn : Func} {tmps : Array Value} {r1 r2 : ResultVar} {v1 v2 : Value} (h : fn.results = #[r1, r2]) (h1 : ResAt P w tmps r1 v1) (h2 : ResAt P w tmps r2 v2) : (results fn tmps).run P w = .ok (.tuple #[v1, v2]) w := by
  rw [results_eq, h]
  simp [run_resOne h1, run_resOne h2]
theorem resO {tmps : Array Value} {t e : TypeId} {d : TypeDesc} (hu : P.underlying t = some d) (hd : aggD d = false) {a : Tmp} {g : Nat} {v : Value} (hH : Holds w0 S bs rows w) (ht : tmps.getD a undef = .pointer (some ⟨g, 0, none⟩)) (ho : Own bs g (.cells #[v] e)) : ResAt P w tmps (.cell a t) v := by
  refine ⟨_, ht, ?_⟩
  have h1 : (isAgg t).run P w = .ok false w := by
    simp only [isAgg, Sem.run_bind, run_underlying hu, Result.andThen_ok]
    cases d <;> simp_all [aggD]
  have hc : w.cell? ⟨g, 0, none⟩ = some v := by rw [cell_own hH ho 0]; rfl
  simp only [loadVar, Sem.run_bind, h1, Result.andThen_ok, Bool.false_eq_true, if_false, run_load, hc]
end
/-- x[:k] -/
theorem ex_slice_to {P : Program} {ρ : Operand → Value} {dst : Option Tmp} {ty : TypeId} {pos : String} {after : Array Edge} {guard : Option (Nat × Bool)} {t e : TypeId} {sz bytes : Nat} (hE : Elem P t e sz bytes) {x hi : Operand} {ao : Option Addr} {n c j : Nat} {q : Int} {k : IntKind} (hx : ρ x = .slice ao n c) (hh : ρ hi = .int k q) (hq : q = (j : Int)) (hj : j ≤ c) (w : World) :
    (execOp ρ { dst := dst, op := .slice t x none (some hi) none, type := ty, pos := pos, after := after, guard := guard }).run P w = .ok (.value (.slice ao j c)) w := by
  subst hq
  obtain ⟨ht, hsz, _, ii, z, hi', _, hsize, _, _⟩ := hE
  have h2 : ∀ w, (sizeOf e).run P w = .ok sz w := run_sizeOf (by rw [hi']; simp [hsize])
  simp [execOp, hx, hh, Instr.sliceAt, Instr.slice, Instr.sliceBounds, Instr.sliceBound, asIntOf, run_underlying ht, h2, hj]
  intro _
  cases ao <;> simp [Addr.add]
theorem Sl.take {w : World} {ao : Option Addr} {n c sz j : Nat} {cs : List Value} (h : Sl w (.slice ao n c) sz n cs) (hj : j ≤ n) : Sl w (.slice ao j c) sz j (cs.take (j * sz)) := by
  obtain ⟨ao', cap, e, hc, hl, hcell⟩ := h
  simp only [Value.slice.injEq, true_and] at e
  obtain ⟨rfl, rfl⟩ := e
  have hle : j * sz ≤ n * sz := Nat.mul_le_mul_right _ hj
  refine ⟨_, _, rfl, by omega, by rw [List.length_take, hl]; omega, fun i u hu => ?_⟩
  rw [List.getElem?_take] at hu
  split at hu
  · exact hcell _ _ hu
  · cases hu
section
variable {P : Program} {ops : Array Oper} {rest : List Oper} {a : Act} {dst : Option Tmp} {ty : TypeId} {pos : String} {after : Array Edge} {guard : Option (Nat × Bool)} {C : World → Prop} {K : Act → Prop}
end
end Go.Proofs.Ytgkfopodhikckaa

/- A region that draws its order, of which the last operations come last whatever is drawn. Over any program; no condition. -/
namespace Go.Proofs.Ytgkfopodhikckaa
open Go.RowKit
section
variable {P : Program}
/-- Operation i waits for operation j. -/
def waits (ops : Array Oper) (i j : Nat) : Bool := ((ops[i]?).map fun (o : Oper) => o.after.toList.any fun e => Region.binds .any e && decide (e.on = j)).getD false
/-- Edges and guards lead back; behind each of the first k operations there is one up to k that waits for it; behind k each waits for the one before. -/
def tailB (ops : Array Oper) (k : Nat) : Bool :=
  decide (k ≤ ops.size) &&
  ((List.range ops.size).all fun i => ((ops[i]?).map fun (o : Oper) => (o.after.toList.all fun e => !Region.binds .any e || decide (e.on < i)) && (match o.guard with | some (g, _) => decide (g < i) | none => true)).getD true) &&
  ((List.range k).all fun j => (List.range (k + 1)).any fun i => decide (j < i) && waits ops i j) &&
  ((List.range ops.size).all fun i => decide (i ≤ k) || waits ops i (i - 1))
/-- The edges that bind. -/
def backB (ops : Array Oper) : Bool := (List.range ops.size).all fun i => ((ops[i]?).map fun (o : Oper) => o.after.toList.all fun e => !Region.binds .any e || decide (e.on < i)).getD true
def Qt (P : Program) (ops : Array Oper) (Q : Exit → Act → World → Prop) (tl : List Oper) : Exit → Act → World → Prop
  | .normal, a, w => wpList P ops Q tl a w
  | x, a, w => Q x a w
theorem waits_dep {ops : Array Oper} {i j : Nat} (h : waits ops i j = true) {o : Oper} (ho : ops[i]? = some o) {listed : Array Bool} (hd : ∀ e ∈ o.after, Region.binds .any e = true → listed.getD e.on false = true) : listed.getD j false = true := by
  unfold waits at h
  rw [ho] at h
  simp only [Option.map_some, Option.getD_some, List.any_eq_true, Bool.and_eq_true, decide_eq_true_eq] at h
  obtain ⟨e, he, hb, rfl⟩ := h
  exact hd e (Array.mem_toList_iff.1 he) hb
theorem wp_Qt {ops : Array Oper} {Q : Exit → Act → World → Prop} {tl : List Oper} {o : Oper} {a : Act} {w : World} {K : Act → World → Prop} (h : o.wp P a w K (Qt P ops Q tl)) : o.wp P a w K Q := by
  unfold Oper.wp at *
  generalize (execOp a.eval o).run P w = r at *
  cases r with
  | ok n w' =>
    cases n <;> simp only [Oper.upon] at h ⊢ <;> exact h
  | halt x w' => cases x <;> simp only [Oper.upon] at h ⊢ <;> exact h
theorem getD_lt {l : Array Bool} {i : Nat} (h : l.getD i true = false) : l.getD i false = false := by
  rw [Array.getD_eq_getD_getElem?] at h ⊢
  cases hh : l[i]? with
  | none => rfl
  | some b => rw [hh] at h; exact h
/-- The tail, one after the other. -/
theorem wpAny_tail {ops : Array Oper} {Q : Exit → Act → World → Prop} {k : Nat} (hB : backB ops = true) (hT : ∀ i, k < i → i < ops.size → waits ops i (i - 1) = true) :
    ∀ (tl : List Oper) (i : Nat) (fuel : Nat) (listed : Array Bool) (a : Act) (w : World), k ≤ i → (∀ j, tl[j]? = ops[i + j]?) → i + tl.length = ops.size → tl.length ≤ fuel → listed.size = ops.size → (∀ j, listed.getD j false = decide (j < i ∧ j < ops.size)) →
      wpList P ops Q tl a w → wpAny P .any ops Q fuel listed a w
  | [], i, fuel, listed, a, w, _, _, hlen, _, hsz, hl, h => by
    have hr : Region.ready .any ops listed = [] := by
      rw [List.eq_nil_iff_forall_not_mem]
      intro j hj
      obtain ⟨h1, o, ho, _⟩ := mem_ready.1 hj
      have hlt : j < ops.size := (Array.getElem?_eq_some_iff.1 ho).1
      have h2 := hl j
      rw [getD_lt h1] at h2
      simp only [List.length_nil] at hlen
      have := (decide_eq_false_iff_not.1 h2.symm)
      omega
    cases fuel with
    | zero => exact ⟨hr, h⟩
    | succ fuel => exact ⟨fun _ => h, fun j hj => by rw [hr] at hj; cases hj⟩
  | o :: tl, i, 0, listed, a, w, _, _, _, hf, _, _, _ => by simp at hf
  | o :: tl, i, fuel + 1, listed, a, w, hk, htl, hlen, hf, hsz, hl, h => by
    have hi : i < ops.size := by simp only [List.length_cons] at hlen; omega
    have h0 : ops[i]? = some o := by simpa using (htl 0).symm
    have hrdy : i ∈ Region.ready .any ops listed := by
      refine mem_ready.2 ⟨?_, o, h0, fun e he hb => ?_⟩
      · have := hl i
        rw [Array.getD_eq_getD_getElem?] at this ⊢
        have hi' : i < listed.size := by omega
        simp only [Array.getElem?_eq_getElem hi', Option.getD_some] at this ⊢
        rw [this]; simp
      · have h3 := List.all_eq_true.1 hB i (by simpa using hi)
        rw [h0] at h3
        simp only [Option.map_some, Option.getD_some, List.all_eq_true, Bool.or_eq_true, Bool.not_eq_true', decide_eq_true_eq] at h3
        rcases h3 e (Array.mem_toList_iff.2 he) with h4 | h4
        · rw [hb] at h4; cases h4
        · rw [hl]; simp; omega
    refine ⟨fun hr => (by rw [hr] at hrdy; cases hrdy), fun j hj => ?_⟩
    obtain ⟨h1, oj, hoj, hd⟩ := mem_ready.1 hj
    have hjlt : j < ops.size := (Array.getElem?_eq_some_iff.1 hoj).1
    have hji : j = i := by
      have h2 := hl j
      rw [getD_lt h1] at h2
      have h3 := (decide_eq_false_iff_not.1 h2.symm)
      by_cases e : j = i
      · exact e
      · exfalso
        have h4 := waits_dep (hT j (by omega) hjlt) hoj hd
        rw [hl] at h4
        simp at h4
        omega
    subst hji
    rw [h0] at hoj
    cases hoj
    have next : ∀ a' w', wpList P ops Q tl a' w' → wpAny P .any ops Q fuel (listed.setIfInBounds j true) a' w' := by
      intro a' w' h'
      refine wpAny_tail hB hT tl (j + 1) fuel _ a' w' (by omega) (fun m => ?_) (by simp only [List.length_cons] at hlen; omega) (by simpa using hf) (by simpa using hsz) (fun m => ?_) h'
      · have := htl (m + 1)
        rw [show j + 1 + m = j + (m + 1) by omega, ← this, List.getElem?_cons_succ]
      · by_cases hm : j = m
        · subst hm
          rw [getD_set_self (by omega)]
          simp; omega
        · rw [getD_set_ne' hm, hl]
          simp only [decide_eq_decide]
          omega
    unfold wpOp
    simp only [h0]
    simp only [wpList] at h
    split
    · rename_i hw
      rw [if_pos hw] at h
      exact h.imp (Oper.wp_mono next) id
    · rename_i hw
      rw [if_neg hw] at h
      exact next _ _ h
/-- First the prefix, in whatever order; then the tail. -/
theorem wpAny_prefix {l1 l2 : List Oper} {Q : Exit → Act → World → Prop} (hT : tailB (l1 ++ l2).toArray l1.length = true) : ∀ (f : Nat) (lk listed : Array Bool) (a : Act) (w : World),
    lk.size = l1.length → listed.size = (l1 ++ l2).length → (∀ j, listed.getD j false = lk.getD j false) →
    (∀ i (o : Oper), l1[i]? = some o → lk.getD i false = true → ∀ e ∈ o.after, Region.binds .any e = true → lk.getD e.on false = true) →
    wpAny P .any l1.toArray (Qt P (l1 ++ l2).toArray Q l2) f lk a w → wpAny P .any (l1 ++ l2).toArray Q (f + l2.length) listed a w := by
  have hT0 := hT
  simp only [tailB, Bool.and_eq_true, decide_eq_true_eq] at hT0
  obtain ⟨⟨⟨hk, hback⟩, hcov⟩, htail⟩ := hT0
  have hbk : ∀ i (o : Oper), (l1 ++ l2)[i]? = some o → (∀ e ∈ o.after, Region.binds .any e = true → e.on < i) ∧ (∀ g b, o.guard = some (g, b) → g < i) := by
    intro i o ho
    have hi : i < (l1 ++ l2).length := (List.getElem?_eq_some_iff.1 ho).1
    have h3 := List.all_eq_true.1 hback i (by simpa using hi)
    have ho' : (l1 ++ l2).toArray[i]? = some o := by simpa using ho
    rw [ho'] at h3
    simp only [Option.map_some, Option.getD_some, Bool.and_eq_true, List.all_eq_true, decide_eq_true_eq, Bool.or_eq_true, Bool.not_eq_true'] at h3
    refine ⟨fun e he hb => (h3.1 e (Array.mem_toList_iff.2 he)).resolve_left (by rw [hb]; decide), fun g b hg => ?_⟩
    have := h3.2
    rw [hg] at this
    simpa using this
  have hB : backB (l1 ++ l2).toArray = true := by
    refine List.all_eq_true.2 fun i hi => ?_
    cases ho : (l1 ++ l2).toArray[i]? with
    | none => rfl
    | some o =>
      simp only [Option.map_some, Option.getD_some, List.all_eq_true]
      intro e he
      cases hb : Region.binds .any e with
      | false => rfl
      | true =>
        have := (hbk i o (by simpa using ho)).1 e (Array.mem_toList_iff.1 he) hb
        simp [this]
  have hTl : ∀ i, l1.length < i → i < (l1 ++ l2).toArray.size → waits (l1 ++ l2).toArray i (i - 1) = true := by
    intro i h1 h2
    have h3 := List.all_eq_true.1 htail i (by simpa using h2)
    simp only [Bool.or_eq_true, decide_eq_true_eq] at h3
    exact h3.resolve_left (by omega)
  -- all of the prefix is listed where nothing of it is ready
  have hall : ∀ lk : Array Bool, lk.size = l1.length → Region.ready .any l1.toArray lk = [] → ∀ i, i < l1.length → lk.getD i false = true := by
    intro lk hsz hr i
    induction i using Nat.strongRecOn with
    | ind i ih =>
      intro hi
      by_cases h : lk.getD i false = true
      · exact h
      · exfalso
        have ho : l1[i]? = some l1[i] := by simp [hi]
        have hm : i ∈ Region.ready .any l1.toArray lk := by
          refine mem_ready.2 ⟨?_, l1[i], by rw [List.getElem?_toArray]; exact ho, fun e he hb => ?_⟩
          · have hi' : i < lk.size := by omega
            rw [Array.getD_eq_getD_getElem?, Array.getElem?_eq_getElem hi', Option.getD_some] at h ⊢
            simpa using h
          · have := (hbk i l1[i] (by rw [List.getElem?_append_left hi]; exact ho)).1 e he hb
            exact ih e.on this (by omega)
        rw [hr] at hm
        cases hm
  have fin : ∀ (lk listed : Array Bool) (a : Act) (w : World) (f : Nat), lk.size = l1.length → listed.size = (l1 ++ l2).length → (∀ j, listed.getD j false = lk.getD j false) → Region.ready .any l1.toArray lk = [] →
      wpList P (l1 ++ l2).toArray Q l2 a w → wpAny P .any (l1 ++ l2).toArray Q (f + l2.length) listed a w := by
    intro lk listed a w f h1 h2 h3 hr h
    refine wpAny_tail hB hTl l2 l1.length _ listed a w (Nat.le_refl _) (fun j => ?_) (by simp) (by omega) (by simpa using h2) (fun j => ?_) h
    · rw [List.getElem?_toArray, List.getElem?_append_right (by omega)]
      congr 1; omega
    · rw [h3]
      by_cases hj : j < l1.length
      · rw [hall lk h1 hr j hj]; simp; omega
      · rw [Array.getD_eq_getD_getElem?, Array.getElem?_eq_none (by omega)]
        simp; omega
  intro f
  induction f with
  | zero =>
    intro lk listed a w h1 h2 h3 _ h
    exact fin lk listed a w 0 h1 h2 h3 h.1 h.2
  | succ f ih =>
    intro lk listed a w h1 h2 h3 hcl h
    by_cases hr : Region.ready .any l1.toArray lk = []
    · exact fin lk listed a w (f + 1) h1 h2 h3 hr (h.1 hr)
    · obtain ⟨m, hm⟩ := List.exists_mem_of_ne_nil _ hr
      have hmr : ∀ j, j ∈ Region.ready .any l1.toArray lk → j < l1.length ∧ lk.getD j false = false := by
        intro j hj
        obtain ⟨g1, o, ho, _⟩ := mem_ready.1 hj
        exact ⟨by simpa using (Array.getElem?_eq_some_iff.1 ho).1, getD_lt g1⟩
      rw [show f + 1 + l2.length = (f + l2.length) + 1 by omega]
      have hin : m ∈ Region.ready .any (l1 ++ l2).toArray listed := by
        obtain ⟨g1, o, ho, hd⟩ := mem_ready.1 hm
        have hlt := (hmr m hm).1
        refine mem_ready.2 ⟨?_, o, ?_, fun e he hb => by rw [h3]; exact hd e he hb⟩
        · have e1 := h3 m
          rw [getD_lt g1] at e1
          have hml : m < listed.size := by rw [h2, List.length_append]; omega
          rw [Array.getD_eq_getD_getElem?, Array.getElem?_eq_getElem hml] at e1 ⊢
          exact e1
        · rw [List.getElem?_toArray] at ho ⊢
          rw [List.getElem?_append_left hlt]; exact ho
      refine ⟨fun hr0 => (by rw [hr0] at hin; cases hin), fun i hi => ?_⟩
      obtain ⟨g1, o, ho, hd⟩ := mem_ready.1 hi
      have hun : lk.getD i false = false := by rw [← h3]; exact getD_lt g1
      have hilt : i < l1.length := by
        by_cases hik : i < l1.length
        · exact hik
        · exfalso
          by_cases hik2 : i = l1.length
          · -- every operation of the prefix is listed
            have : ∀ d j, l1.length - j = d → j < l1.length → lk.getD j false = true := by
              intro d
              induction d using Nat.strongRecOn with
              | ind d ihd =>
                intro j hd' hj
                have h5 := List.all_eq_true.1 hcov j (by simpa using hj)
                obtain ⟨i', hi', h6⟩ := List.any_eq_true.1 h5
                simp only [Bool.and_eq_true, decide_eq_true_eq] at h6
                have hi2 : i' < l1.length + 1 := by simpa using hi'
                rcases Nat.lt_or_ge i' l1.length with h7 | h7
                · have h8 := ihd (l1.length - i') (by omega) i' rfl h7
                  have ho' : l1[i']? = some l1[i'] := by simp [h7]
                  exact waits_dep h6.2 (o := l1[i']) (by rw [List.getElem?_toArray, List.getElem?_append_left h7]; exact ho') (fun e he hb => hcl i' _ ho' h8 e he hb)
                · have e7 : i' = i := by omega
                  subst e7
                  rw [← h3]
                  exact waits_dep h6.2 ho hd
            have := this _ m rfl (hmr m hm).1
            rw [(hmr m hm).2] at this
            cases this
          · have hlt : i < (l1 ++ l2).toArray.size := (Array.getElem?_eq_some_iff.1 ho).1
            have h8 := waits_dep (hTl i (by omega) hlt) ho hd
            rw [h3, Array.getD_eq_getD_getElem?, Array.getElem?_eq_none (by omega)] at h8
            simp at h8
      have ho1 : l1[i]? = some o := by
        rw [List.getElem?_toArray, List.getElem?_append_left hilt] at ho; exact ho
      have hrk : i ∈ Region.ready .any l1.toArray lk := by
        refine mem_ready.2 ⟨?_, o, by simpa using ho1, fun e he hb => by rw [← h3]; exact hd e he hb⟩
        have hil : i < lk.size := by omega
        rw [Array.getD_eq_getD_getElem?, Array.getElem?_eq_getElem hil] at hun ⊢
        exact hun
      have hop := h.2 i hrk
      have next : ∀ a' w', wpAny P .any l1.toArray (Qt P (l1 ++ l2).toArray Q l2) f (lk.setIfInBounds i true) a' w' → wpAny P .any (l1 ++ l2).toArray Q (f + l2.length) (listed.setIfInBounds i true) a' w' := by
        intro a' w' h'
        have hil : i < lk.size := by omega
        have hil2 : i < listed.size := by rw [h2, List.length_append]; omega
        refine ih _ _ a' w' (by simpa using h1) (by simpa using h2) (fun j => ?_) (fun j oj hoj hj e he hb => ?_) h'
        · by_cases hij : i = j
          · subst hij; rw [getD_set_self hil, getD_set_self hil2]
          · rw [getD_set_ne' hij, getD_set_ne' hij]; exact h3 j
        · have hdep : lk.getD e.on false = true := by
            by_cases hij : i = j
            · subst hij
              rw [ho1] at hoj; cases hoj
              rw [← h3]; exact hd e he hb
            · rw [getD_set_ne' hij] at hj
              exact hcl j oj hoj hj e he hb
          by_cases hie : i = e.on
          · rw [← hie]; exact getD_set_self hil _
          · rw [getD_set_ne' hie]; exact hdep
      have hwant : Region.wanted o (yielded l1.toArray a.tmps) = Region.wanted o (yielded (l1 ++ l2).toArray a.tmps) := by
        unfold Region.wanted
        cases hg : o.guard with
        | none => rfl
        | some gb =>
          obtain ⟨g, b⟩ := gb
          have hgi := (hbk i o (by simpa using ho)).2 g b hg
          have : yielded l1.toArray a.tmps g = yielded (l1 ++ l2).toArray a.tmps g := by
            unfold yielded
            rw [List.getElem?_toArray, List.getElem?_toArray, List.getElem?_append_left (by omega)]
          simp only [this]
      unfold wpOp at hop ⊢
      rw [show (l1.toArray)[i]? = some o by simpa using ho1] at hop
      simp only [ho] at hop ⊢
      rw [hwant] at hop
      split
      · rename_i hw
        rw [if_pos hw] at hop
        exact hop.imp (fun h' => Oper.wp_mono next (wp_Qt h')) (fun ⟨h5, a', w', h6⟩ => ⟨h5, a', w', h6⟩)
      · rename_i hw
        rw [if_neg hw] at hop
        exact next _ _ hop
theorem wp_region_split {id : Nat} {l1 l2 : List Oper} {Q : Exit → Act → World → Prop} {a : Act} {w : World} (hm : P.follows .mixedOrders = true) (hT : tailB (l1 ++ l2).toArray l1.length = true)
    (h : wpAny P .any l1.toArray (Qt P (l1 ++ l2).toArray Q l2) l1.length (Array.replicate l1.length false) a w.drew) : (Code.region id (l1 ++ l2).toArray true).wp P Q a w := by
  refine wp_region_any hm ?_
  have := wpAny_prefix (P := P) (Q := Q) hT l1.length (Array.replicate l1.length false) (Array.replicate (l1 ++ l2).length false) a w.drew (by simp) (by simp) (fun j => by
    rw [Array.getD_eq_getD_getElem?, Array.getD_eq_getD_getElem?, Array.getElem?_replicate, Array.getElem?_replicate]
    split <;> split <;> rfl) (fun i o _ hi => by
    rw [Array.getD_eq_getD_getElem?, Array.getElem?_replicate] at hi
    split at hi <;> cases hi) h
  have e : (l1 ++ l2).toArray.size = l1.length + l2.length := by simp
  rw [e]
  have e2 : (l1 ++ l2).length = l1.length + l2.length := by simp
  rw [e2] at this
  exact this
section
variable {w0 w : World} {S : List Nat} {bs : List (Nat × Obj)} {rows : List Row} {a : Act} {Q : Exit → Act → World → Prop}
theorem wp_region_tailQ {id : Nat} {l : List Oper} (k : Nat) (hm : P.follows .mixedOrders = true) (hT : tailB (l.take k ++ l.drop k).toArray (l.take k).length = true) (hB : Region.lexB .any (l.take k).toArray = true) (hH : Holds w0 S bs rows w)
    (h : wpQuiet P (l.take k).toArray (fun w' => Holds w0 S bs rows w') (fun a' => ∀ w', Holds w0 S bs rows w' → wpList P l.toArray Q (l.drop k) a' w') (l.take k) a) : (Code.region id l.toArray true).wp P Q a w := by
  have h1 : (Code.region id (l.take k ++ l.drop k).toArray true).wp P Q a w := by
    refine wp_region_split hm hT ?_
    simp only [Region.lexB, Bool.and_eq_true] at hB
    refine wpAny_of_quiet (C := fun w' => Holds w0 S bs rows w') (Q := fun a' => ∀ w', Holds w0 S bs rows w' → wpList P l.toArray Q (l.drop k) a' w') (fun a' w' hw' h => ?_) _ _ _ _ hH.drew ?_
    · show wpList P (l.take k ++ l.drop k).toArray Q (l.drop k) a' w'
      rw [List.take_append_drop]
      exact h w' hw'
    · have := wpAnyQ_lex (P := P) (C := fun w' => Holds w0 S bs rows w') (md := .any) hB.1 (l.take k) 0 (Array.replicate (l.take k).toArray.size false) a (by simp) (by simpa using hB.2) h
      rw [show (l.take k).toArray.size = (l.take k).length by simp] at this
      exact this
  rwa [List.take_append_drop] at h1
theorem wp_region_tailR {id : Nat} {l : List Oper} (k : Nat) (L : List Asr) (hH : Holds w0 S bs rows w) (hm : P.follows .mixedOrders = true) (hT : tailB (l.take k ++ l.drop k).toArray (l.take k).length = true) (hsh : shapeD a.tmps.size (l.take k).toArray = true) (hlen : L.length = (l.take k).length)
    (hstep : eachD (ShowD P (l.take k) a (fun w' => Holds w0 S bs rows w' ∧ Below w.heap.size w w') L) 0 (l.take k))
    (hend : ∀ w', Holds w0 S bs rows w' → Below w.heap.size w w' → endD w' L fun vs => wpList P l.toArray Q (l.drop k) (putsD a (l.take k) vs) w') : (Code.region id l.toArray true).wp P Q a w := by
  have h1 : (Code.region id (l.take k ++ l.drop k).toArray true).wp P Q a w := by
    refine wp_region_split hm hT ?_
    have := wpAny_R (P := P) (Q := Qt P (l.take k ++ l.drop k).toArray Q (l.drop k)) L hH hsh hlen hstep (fun w' h1 h2 => by
      have h3 := hend w' h1 h2
      have e : ∀ a' w', Qt P (l.take k ++ l.drop k).toArray Q (l.drop k) .normal a' w' = wpList P l.toArray Q (l.drop k) a' w' := by
        intro a' w'
        show wpList P (l.take k ++ l.drop k).toArray Q (l.drop k) a' w' = _
        rw [List.take_append_drop]
      simpa only [e] using h3)
    rw [show (l.take k).toArray.size = (l.take k).length by simp] at this
    exact this
  rwa [List.take_append_drop] at h1
end
end
end Go.Proofs.Ytgkfopodhikckaa

/- Words of 32 bits as values: the operations on them; variables of the call's own of several cells. Over any program. No condition. -/
namespace Go.Proofs.Ytgkfopodhikckaa
open Go.RowKit
abbrev W32 := BitVec 32
/-- A word as a cell. -/
def wrd (x : W32) : Value := .int .u32 (x.toNat : Int)
theorem wrap32 (n : Nat) : IntKind.u32.wrap (n : Int) = ((n % 4294967296 : Nat) : Int) := by rw [IntKind.wrap_u32]; omega
theorem wrd_of (x : W32) (n : Nat) (h : n % 4294967296 = x.toNat) : Value.int .u32 (IntKind.u32.wrap (n : Int)) = wrd x := by
  unfold wrd; rw [wrap32, h]
theorem ofInt_toNat (x : W32) : BitVec.ofInt 32 (x.toNat : Int) = x := by
  rw [BitVec.ofInt_natCast]; exact (BitVec.ofNat_toNat 32 x).trans (BitVec.setWidth_eq x)
def isW : BinOp → Bool | .xor | .and | .or | .add => true | _ => false
@[reducible] def wopF : BinOp → W32 → W32 → W32
  | .xor, x, y => x ^^^ y
  | .and, x, y => x &&& y
  | .or, x, y => x ||| y
  | .add, x, y => x + y
  | _, x, _ => x
section
variable {P : Program}
theorem run_wop {op : BinOp} (ho : isW op = true) (t : TypeId) (x y : W32) (w : World) : (binOp op t (wrd x) (wrd y)).run P w = .ok (wrd (wopF op x y)) w := by
  have hb : ∀ r : W32, Value.int .u32 (IntKind.u32.wrap (r.toNat : Int)) = wrd r := fun r => wrd_of r _ (Nat.mod_eq_of_lt r.isLt)
  have ha : Value.int .u32 (IntKind.u32.wrap ((x.toNat : Int) + (y.toNat : Int))) = wrd (x + y) := by
    have := wrd_of (x + y) (x.toNat + y.toNat) (by rw [BitVec.toNat_add])
    rw [← this]; simp
  have hx : BitVec.ofInt IntKind.u32.bits (x.toNat : Int) = x := ofInt_toNat x
  have hy : BitVec.ofInt IntKind.u32.bits (y.toNat : Int) = y := ofInt_toNat y
  cases op <;> simp only [isW, Bool.false_eq_true] at ho
  · show (Op.intArith .add .u32 (x.toNat : Int) (y.toNat : Int)).run P w = _
    simp only [Op.intArith, Sem.run_pure, ha]
  · show (Op.intBits .and .u32 (x.toNat : Int) (y.toNat : Int)).run P w = _
    simp only [Op.intBits, Sem.run_pure, hx, hy]
    exact congrArg (Result.ok · w) (hb (x &&& y))
  · show (Op.intBits .or .u32 (x.toNat : Int) (y.toNat : Int)).run P w = _
    simp only [Op.intBits, Sem.run_pure, hx, hy]
    exact congrArg (Result.ok · w) (hb (x ||| y))
  · show (Op.intBits .xor .u32 (x.toNat : Int) (y.toNat : Int)).run P w = _
    simp only [Op.intBits, Sem.run_pure, hx, hy]
    exact congrArg (Result.ok · w) (hb (x ^^^ y))
theorem run_wshl (t : TypeId) (x : W32) (k : IntKind) (n : Int) (hn : 0 ≤ n ∧ n < 32) (w : World) : (binOp .shl t (wrd x) (.int k n)).run P w = .ok (wrd (x <<< n.toNat)) w := by
  show (Op.shift .shl .u32 (x.toNat : Int) k n).run P w = _
  have h0 : ¬ n < 0 := by omega
  have h1 : min n.toNat IntKind.u32.bits = n.toNat := by
    have : IntKind.u32.bits = 32 := rfl
    omega
  simp only [Op.shift, h0, if_false, h1, Sem.run_pure]
  have := wrd_of (x <<< n.toNat) (x.toNat * 2 ^ n.toNat) (by rw [BitVec.toNat_shiftLeft, Nat.shiftLeft_eq])
  rw [← this]
  simp
theorem run_wshr (t : TypeId) (x : W32) (k : IntKind) (n : Int) (hn : 0 ≤ n ∧ n < 32) (w : World) : (binOp .shr t (wrd x) (.int k n)).run P w = .ok (wrd (x >>> n.toNat)) w := by
  show (Op.shift .shr .u32 (x.toNat : Int) k n).run P w = _
  have h0 : ¬ n < 0 := by omega
  have h1 : min n.toNat IntKind.u32.bits = n.toNat := by
    have : IntKind.u32.bits = 32 := rfl
    omega
  simp only [Op.shift, h0, if_false, h1, Sem.run_pure]
  unfold wrd
  rw [BitVec.toNat_ushiftRight, Nat.shiftRight_eq_div_pow]
  congr 2
  rw [Int.fdiv_eq_ediv_of_nonneg _ (by exact_mod_cast Nat.zero_le _)]
  norm_cast
theorem run_wnot (x : W32) (w : World) : (Op.unary .xor (wrd x)).run P w = .ok (wrd (~~~x)) w := by
  show (Op.intBits .xor .u32 (if IntKind.u32.signed then -1 else IntKind.u32.max) (x.toNat : Int)).run P w = _
  have hx : BitVec.ofInt IntKind.u32.bits (x.toNat : Int) = x := ofInt_toNat x
  have hm : BitVec.ofInt IntKind.u32.bits (if IntKind.u32.signed = true then -1 else IntKind.u32.max) = BitVec.allOnes 32 := rfl
  have hb : ∀ r : W32, Value.int .u32 (IntKind.u32.wrap (r.toNat : Int)) = wrd r := fun r => wrd_of r _ (Nat.mod_eq_of_lt r.isLt)
  simp only [Op.intBits, Sem.run_pure, hx, hm]
  have : BitVec.allOnes 32 ^^^ x = ~~~x := by rw [BitVec.xor_comm, BitVec.xor_allOnes]
  have h2 := hb (BitVec.allOnes 32 ^^^ x)
  rw [this] at h2
  exact congrArg (Result.ok · w) (show Value.int .u32 (IntKind.u32.wrap ((BitVec.allOnes 32 ^^^ x).toNat : Int)) = wrd (~~~x) by rw [this]; exact h2)
/-- A byte as a word. -/
def b2w (b : UInt8) : W32 := BitVec.ofNat 32 b.toNat
def w2b (x : W32) : UInt8 := UInt8.ofNat x.toNat
theorem run_b2w {s d : TypeId} {z : TypeDesc} (hs : P.underlying s = some z) (hd : P.underlying d = some (.int .u32)) (b : UInt8) (w : World) : (convert s d (byt b)).run P w = .ok (wrd (b2w b)) w := by
  have hb := b.toNat_lt
  have : IntKind.u32.wrap (b.toNat : Int) = (b.toNat : Int) := IntWalk.u32_in _ (by omega)
  simp only [convert, byt, Sem.run_bind, run_underlying hs, run_underlying hd, Result.andThen_ok, Conv.intToInt, Sem.run_pure, this]
  unfold wrd b2w
  rw [BitVec.toNat_ofNat, Nat.mod_eq_of_lt (by omega)]
theorem run_w2b {s d : TypeId} {z : TypeDesc} (hs : P.underlying s = some z) (hd : P.underlying d = some (.int .u8)) (x : W32) (w : World) : (convert s d (wrd x)).run P w = .ok (byt (w2b x)) w := by
  simp only [convert, wrd, Sem.run_bind, run_underlying hs, run_underlying hd, Result.andThen_ok, Conv.intToInt, Sem.run_pure]
  unfold byt w2b
  rw [UInt8.toNat_ofNat', IntKind.wrap_u8]
  congr 2
/-- Field f of the struct t lies at off, and takes place. -/
def FieldT (P : Program) (t : TypeId) (f off : Nat) : Prop := ∃ fs fd m, P.underlying t = some (.struct fs) ∧ fs[f]? = some fd ∧ fd.offset = off ∧ (P.info? fd.type).map (·.size) = some (m + 1)
theorem ex_fieldAddr {ρ : Operand → Value} {dst : Option Tmp} {ty : TypeId} {pos : String} {after : Array Edge} {guard : Option (Nat × Bool)} {t : TypeId} {f off : Nat} {x : Operand} {g j : Nat} (hF : FieldT P t f off) (hx : ρ x = .pointer (some ⟨g, j, none⟩)) (w : World) :
    (execOp ρ { dst := dst, op := .fieldAddr t x f, type := ty, pos := pos, after := after, guard := guard }).run P w = .ok (.value (.pointer (some ⟨g, j + off, none⟩))) w := by
  obtain ⟨fs, fd, m, ht, hf, rfl, hsz⟩ := hF
  have hadd : (⟨g, j, none⟩ : Addr).add fd.offset = ⟨g, j + fd.offset, none⟩ := by unfold Addr.add; split <;> simp_all
  have h2 : ∀ w, (sizeOf fd.type).run P w = .ok (m + 1) w := run_sizeOf hsz
  simp [execOp, hx, Instr.fieldAt, Instr.sureAddr, run_underlying ht, hf, fieldPlace, h2, hadd]
theorem ex_indexVar {ρ : Operand → Value} {dst : Option Tmp} {ty : TypeId} {pos : String} {after : Array Edge} {guard : Option (Nat × Bool)} {t e : TypeId} {n : Nat} {x i : Operand} {g j m : Nat} {q : Int} {k : IntKind} (ht : P.underlying t = some (.array n e)) (he : (P.info? e).map (·.size) = some 1) (hx : ρ x = .pointer (some ⟨g, j, none⟩))
    (hi : ρ i = .int k q) (hq : q = (m : Int)) (hm : m < n) (w : World) :
    (execOp ρ { dst := dst, op := .indexAddr t x i, type := ty, pos := pos, after := after, guard := guard }).run P w = .ok (.value (.pointer (some ⟨g, j + m, none⟩))) w := by
  subst hq
  have hadd : (⟨g, j, none⟩ : Addr).add m = ⟨g, j + m, none⟩ := by unfold Addr.add; split <;> simp_all
  have hc : (0 : Int) ≤ (m : Int) ∧ (m : Int) < n := by omega
  simp only [execOp, hx, hi, Instr.indexAt, asIntOf, Sem.run_bind, Sem.run_pure, Result.andThen_ok, run_underlying ht, Instr.sureAddr, run_sizeOf he, hc, and_self, if_true, Int.toNat_natCast, Nat.mul_one, hadd]
theorem ex_indexV {ρ : Operand → Value} {dst : Option Tmp} {ty : TypeId} {pos : String} {after : Array Edge} {guard : Option (Nat × Bool)} {t e : TypeId} {d : TypeDesc} {n : Nat} {x i : Operand} {cs : Array Value} {m : Nat} {q : Int} {k : IntKind} {v : Value} (ht : P.underlying t = some (.array n e)) (hd : P.underlying e = some d) (hag : aggD d = false) (he : (P.info? e).map (·.size) = some 1) (hx : ρ x = .agg cs)
    (hi : ρ i = .int k q) (hq : q = (m : Int)) (hm : m < n) (hv : cs[m]? = some v) (w : World) :
    (execOp ρ { dst := dst, op := .index t x i, type := ty, pos := pos, after := after, guard := guard }).run P w = .ok (.value v) w := by
  subst hq
  have hc : (0 : Int) ≤ (m : Int) ∧ (m : Int) < n := by omega
  have h1 : (isAgg e).run P w = .ok false w := by
    simp only [isAgg, Sem.run_bind, run_underlying hd, Result.andThen_ok]
    cases d <;> simp_all [aggD]
  simp only [execOp, hx, hi, Instr.index, asIntOf, Sem.run_bind, Sem.run_pure, Result.andThen_ok, run_underlying ht, run_sizeOf he, hc, and_self, if_true, Int.toNat_natCast, Nat.mul_one, part, h1, Bool.false_eq_true, if_false, hv]
theorem ex_wop {ρ : Operand → Value} {dst : Option Tmp} {ty : TypeId} {pos : String} {after : Array Edge} {guard : Option (Nat × Bool)} {op : BinOp} {t yt : TypeId} {x y : Operand} {p q : W32} (ho : isW op = true) (hx : ρ x = wrd p) (hy : ρ y = wrd q) (w : World) :
    (execOp ρ { dst := dst, op := .binOp op t x y yt, type := ty, pos := pos, after := after, guard := guard }).run P w = .ok (.value (wrd (wopF op p q))) w := by
  have he : ∀ u v, eqGuard op t x y u v = pure () := by intro u v; cases op <;> simp [isW] at ho <;> rfl
  simp only [execOp, hx, hy, Sem.run_bind, he, Sem.run_pure, Result.andThen_ok, run_wop ho]
theorem ex_wshl {ρ : Operand → Value} {dst : Option Tmp} {ty : TypeId} {pos : String} {after : Array Edge} {guard : Option (Nat × Bool)} {t yt : TypeId} {x y : Operand} {p : W32} {k : IntKind} {n : Int} (hx : ρ x = wrd p) (hy : ρ y = .int k n) (hn : 0 ≤ n ∧ n < 32) (w : World) :
    (execOp ρ { dst := dst, op := .binOp .shl t x y yt, type := ty, pos := pos, after := after, guard := guard }).run P w = .ok (.value (wrd (p <<< n.toNat))) w := by
  have he : ∀ u v, eqGuard .shl t x y u v = pure () := fun _ _ => rfl
  simp only [execOp, hx, hy, Sem.run_bind, he, Sem.run_pure, Result.andThen_ok, run_wshl t p k n hn]
theorem ex_wshr {ρ : Operand → Value} {dst : Option Tmp} {ty : TypeId} {pos : String} {after : Array Edge} {guard : Option (Nat × Bool)} {t yt : TypeId} {x y : Operand} {p : W32} {k : IntKind} {n : Int} (hx : ρ x = wrd p) (hy : ρ y = .int k n) (hn : 0 ≤ n ∧ n < 32) (w : World) :
    (execOp ρ { dst := dst, op := .binOp .shr t x y yt, type := ty, pos := pos, after := after, guard := guard }).run P w = .ok (.value (wrd (p >>> n.toNat))) w := by
  have he : ∀ u v, eqGuard .shr t x y u v = pure () := fun _ _ => rfl
  simp only [execOp, hx, hy, Sem.run_bind, he, Sem.run_pure, Result.andThen_ok, run_wshr t p k n hn]
theorem ex_wnot {ρ : Operand → Value} {dst : Option Tmp} {ty : TypeId} {pos : String} {after : Array Edge} {guard : Option (Nat × Bool)} {t : TypeId} {x : Operand} {p : W32} (hx : ρ x = wrd p) (w : World) :
    (execOp ρ { dst := dst, op := .unOp .xor t x, type := ty, pos := pos, after := after, guard := guard }).run P w = .ok (.value (wrd (~~~p))) w := by
  simp only [execOp, hx, Sem.run_bind, Sem.run_pure, Result.andThen_ok, run_wnot]
theorem ex_b2w {ρ : Operand → Value} {dst : Option Tmp} {ty : TypeId} {pos : String} {after : Array Edge} {guard : Option (Nat × Bool)} {s d : TypeId} {z : TypeDesc} {x : Operand} {b : UInt8} (hs : P.underlying s = some z) (hd : P.underlying d = some (.int .u32)) (hx : ρ x = byt b) (w : World) :
    (execOp ρ { dst := dst, op := .convert s d x, type := ty, pos := pos, after := after, guard := guard }).run P w = .ok (.value (wrd (b2w b))) w := by
  simp only [execOp, hx, Sem.run_bind, Sem.run_pure, Result.andThen_ok, run_b2w hs hd]
theorem ex_w2b {ρ : Operand → Value} {dst : Option Tmp} {ty : TypeId} {pos : String} {after : Array Edge} {guard : Option (Nat × Bool)} {s d : TypeId} {z : TypeDesc} {x : Operand} {p : W32} (hs : P.underlying s = some z) (hd : P.underlying d = some (.int .u8)) (hx : ρ x = wrd p) (w : World) :
    (execOp ρ { dst := dst, op := .convert s d x, type := ty, pos := pos, after := after, guard := guard }).run P w = .ok (.value (byt (w2b p))) w := by
  simp only [execOp, hx, Sem.run_bind, Sem.run_pure, Result.andThen_ok, run_w2b hs hd]
section
variable {ops : Array Oper} {rest : List Oper} {a : Act} {dst : Option Tmp} {ty : TypeId} {pos : String} {after : Array Edge} {guard : Option (Nat × Bool)} {C : World → Prop} {K : Act → Prop} {w : World} {Q : Exit → Act → World → Prop}
theorem wpQ_wop {op : BinOp} {t yt : TypeId} {x y : Operand} {p q : W32} (ho : isW op = true) (hx : a.eval x = wrd p) (hy : a.eval y = wrd q)
    (hg : Region.wanted { dst := dst, op := .binOp op t x y yt, type := ty, pos := pos, after := after, guard := guard } (yielded ops a.tmps) = true)
    (h : wpQuiet P ops C K rest (a.put dst (wrd (wopF op p q)))) : wpQuiet P ops C K ({ dst := dst, op := .binOp op t x y yt, type := ty, pos := pos, after := after, guard := guard } :: rest) a :=
  wpQuiet_ex hg (fun w _ => ex_wop (ρ := a.eval) ho hx hy w) h
theorem wpL_wop {op : BinOp} {t yt : TypeId} {x y : Operand} {p q : W32} (ho : isW op = true) (hx : a.eval x = wrd p) (hy : a.eval y = wrd q)
    (hg : Region.wanted { dst := dst, op := .binOp op t x y yt, type := ty, pos := pos, after := after, guard := guard } (yielded ops a.tmps) = true)
    (h : wpList P ops Q rest (a.put dst (wrd (wopF op p q))) w) : wpList P ops Q ({ dst := dst, op := .binOp op t x y yt, type := ty, pos := pos, after := after, guard := guard } :: rest) a w :=
  wpList_ex hg (ex_wop (ρ := a.eval) ho hx hy w) h
theorem wpQ_wshl {t yt : TypeId} {x y : Operand} {p : W32} {k : IntKind} {n : Int} (hx : a.eval x = wrd p) (hy : a.eval y = .int k n) (hn : 0 ≤ n ∧ n < 32)
    (hg : Region.wanted { dst := dst, op := .binOp .shl t x y yt, type := ty, pos := pos, after := after, guard := guard } (yielded ops a.tmps) = true)
    (h : wpQuiet P ops C K rest (a.put dst (wrd (p <<< n.toNat)))) : wpQuiet P ops C K ({ dst := dst, op := .binOp .shl t x y yt, type := ty, pos := pos, after := after, guard := guard } :: rest) a :=
  wpQuiet_ex hg (fun w _ => ex_wshl (ρ := a.eval) hx hy hn w) h
theorem wpL_wshl {t yt : TypeId} {x y : Operand} {p : W32} {k : IntKind} {n : Int} (hx : a.eval x = wrd p) (hy : a.eval y = .int k n) (hn : 0 ≤ n ∧ n < 32)
    (hg : Region.wanted { dst := dst, op := .binOp .shl t x y yt, type := ty, pos := pos, after := after, guard := guard } (yielded ops a.tmps) = true)
    (h : wpList P ops Q rest (a.put dst (wrd (p <<< n.toNat))) w) : wpList P ops Q ({ dst := dst, op := .binOp .shl t x y yt, type := ty, pos := pos, after := after, guard := guard } :: rest) a w :=
  wpList_ex hg (ex_wshl (ρ := a.eval) hx hy hn w) h
theorem wpQ_wshr {t yt : TypeId} {x y : Operand} {p : W32} {k : IntKind} {n : Int} (hx : a.eval x = wrd p) (hy : a.eval y = .int k n) (hn : 0 ≤ n ∧ n < 32)
    (hg : Region.wanted { dst := dst, op := .binOp .shr t x y yt, type := ty, pos := pos, after := after, guard := guard } (yielded ops a.tmps) = true)
    (h : wpQuiet P ops C K rest (a.put dst (wrd (p >>> n.toNat)))) : wpQuiet P ops C K ({ dst := dst, op := .binOp .shr t x y yt, type := ty, pos := pos, after := after, guard := guard } :: rest) a :=
  wpQuiet_ex hg (fun w _ => ex_wshr (ρ := a.eval) hx hy hn w) h
theorem wpL_wshr {t yt : TypeId} {x y : Operand} {p : W32} {k : IntKind} {n : Int} (hx : a.eval x = wrd p) (hy : a.eval y = .int k n) (hn : 0 ≤ n ∧ n < 32)
    (hg : Region.wanted { dst := dst, op := .binOp .shr t x y yt, type := ty, pos := pos, after := after, guard := guard } (yielded ops a.tmps) = true)
    (h : wpList P ops Q rest (a.put dst (wrd (p >>> n.toNat))) w) : wpList P ops Q ({ dst := dst, op := .binOp .shr t x y yt, type := ty, pos := pos, after := after, guard := guard } :: rest) a w :=
  wpList_ex hg (ex_wshr (ρ := a.eval) hx hy hn w) h
theorem wpQ_wnot {t : TypeId} {x : Operand} {p : W32} (hx : a.eval x = wrd p)
    (hg : Region.wanted { dst := dst, op := .unOp .xor t x, type := ty, pos := pos, after := after, guard := guard } (yielded ops a.tmps) = true)
    (h : wpQuiet P ops C K rest (a.put dst (wrd (~~~p)))) : wpQuiet P ops C K ({ dst := dst, op := .unOp .xor t x, type := ty, pos := pos, after := after, guard := guard } :: rest) a :=
  wpQuiet_ex hg (fun w _ => ex_wnot (ρ := a.eval) hx w) h
theorem wpQ_b2w {s d : TypeId} {z : TypeDesc} {x : Operand} {b : UInt8} (hs : P.underlying s = some z) (hd : P.underlying d = some (.int .u32)) (hx : a.eval x = byt b)
    (hg : Region.wanted { dst := dst, op := .convert s d x, type := ty, pos := pos, after := after, guard := guard } (yielded ops a.tmps) = true)
    (h : wpQuiet P ops C K rest (a.put dst (wrd (b2w b)))) : wpQuiet P ops C K ({ dst := dst, op := .convert s d x, type := ty, pos := pos, after := after, guard := guard } :: rest) a :=
  wpQuiet_ex hg (fun w _ => ex_b2w (ρ := a.eval) hs hd hx w) h
theorem wpL_w2b {s d : TypeId} {z : TypeDesc} {x : Operand} {p : W32} (hs : P.underlying s = some z) (hd : P.underlying d = some (.int .u8)) (hx : a.eval x = wrd p)
    (hg : Region.wanted { dst := dst, op := .convert s d x, type := ty, pos := pos, after := after, guard := guard } (yielded ops a.tmps) = true)
    (h : wpList P ops Q rest (a.put dst (byt (w2b p))) w) : wpList P ops Q ({ dst := dst, op := .convert s d x, type := ty, pos := pos, after := after, guard := guard } :: rest) a w :=
  wpList_ex hg (ex_w2b (ρ := a.eval) hs hd hx w) h
theorem wpQ_fieldAddr {t : TypeId} {f off : Nat} {x : Operand} {g j : Nat} (hF : FieldT P t f off) (hx : a.eval x = .pointer (some ⟨g, j, none⟩))
    (hg : Region.wanted { dst := dst, op := .fieldAddr t x f, type := ty, pos := pos, after := after, guard := guard } (yielded ops a.tmps) = true)
    (h : wpQuiet P ops C K rest (a.put dst (.pointer (some ⟨g, j + off, none⟩)))) : wpQuiet P ops C K ({ dst := dst, op := .fieldAddr t x f, type := ty, pos := pos, after := after, guard := guard } :: rest) a :=
  wpQuiet_ex hg (fun w _ => ex_fieldAddr (ρ := a.eval) hF hx w) h
theorem wpL_fieldAddr {t : TypeId} {f off : Nat} {x : Operand} {g j : Nat} (hF : FieldT P t f off) (hx : a.eval x = .pointer (some ⟨g, j, none⟩))
    (hg : Region.wanted { dst := dst, op := .fieldAddr t x f, type := ty, pos := pos, after := after, guard := guard } (yielded ops a.tmps) = true)
    (h : wpList P ops Q rest (a.put dst (.pointer (some ⟨g, j + off, none⟩))) w) : wpList P ops Q ({ dst := dst, op := .fieldAddr t x f, type := ty, pos := pos, after := after, guard := guard } :: rest) a w :=
  wpList_ex hg (ex_fieldAddr (ρ := a.eval) hF hx w) h
theorem wpQ_indexVar {t e : TypeId} {n : Nat} {x i : Operand} {g j m : Nat} {q : Int} {k : IntKind} (ht : P.underlying t = some (.array n e)) (he : (P.info? e).map (·.size) = some 1) (hx : a.eval x = .pointer (some ⟨g, j, none⟩)) (hi : a.eval i = .int k q) (hq : q = (m : Int)) (hm : m < n)
    (hg : Region.wanted { dst := dst, op := .indexAddr t x i, type := ty, pos := pos, after := after, guard := guard } (yielded ops a.tmps) = true)
    (h : wpQuiet P ops C K rest (a.put dst (.pointer (some ⟨g, j + m, none⟩)))) : wpQuiet P ops C K ({ dst := dst, op := .indexAddr t x i, type := ty, pos := pos, after := after, guard := guard } :: rest) a :=
  wpQuiet_ex hg (fun w _ => ex_indexVar (ρ := a.eval) ht he hx hi hq hm w) h
theorem wpL_indexVar {t e : TypeId} {n : Nat} {x i : Operand} {g j m : Nat} {q : Int} {k : IntKind} (ht : P.underlying t = some (.array n e)) (he : (P.info? e).map (·.size) = some 1) (hx : a.eval x = .pointer (some ⟨g, j, none⟩)) (hi : a.eval i = .int k q) (hq : q = (m : Int)) (hm : m < n)
    (hg : Region.wanted { dst := dst, op := .indexAddr t x i, type := ty, pos := pos, after := after, guard := guard } (yielded ops a.tmps) = true)
    (h : wpList P ops Q rest (a.put dst (.pointer (some ⟨g, j + m, none⟩))) w) : wpList P ops Q ({ dst := dst, op := .indexAddr t x i, type := ty, pos := pos, after := after, guard := guard } :: rest) a w :=
  wpList_ex hg (ex_indexVar (ρ := a.eval) ht he hx hi hq hm w) h
theorem wpL_indexV {t e : TypeId} {d : TypeDesc} {n : Nat} {x i : Operand} {cs : Array Value} {m : Nat} {q : Int} {k : IntKind} {v : Value} (ht : P.underlying t = some (.array n e)) (hd : P.underlying e = some d) (hag : aggD d = false) (he : (P.info? e).map (·.size) = some 1) (hx : a.eval x = .agg cs) (hi : a.eval i = .int k q) (hq : q = (m : Int)) (hm : m < n) (hv : cs[m]? = some v)
    (hg : Region.wanted { dst := dst, op := .index t x i, type := ty, pos := pos, after := after, guard := guard } (yielded ops a.tmps) = true)
    (h : wpList P ops Q rest (a.put dst (v)) w) : wpList P ops Q ({ dst := dst, op := .index t x i, type := ty, pos := pos, after := after, guard := guard } :: rest) a w :=
  wpList_ex hg (ex_indexV (ρ := a.eval) ht hd hag he hx hi hq hm hv w) h
end
end
section
variable {P : Program} {ops : Array Oper} {rest : List Oper} {a : Act} {dst : Option Tmp} {ty : TypeId} {pos : String} {after : Array Edge} {guard : Option (Nat × Bool)} {w : World} {Q : Exit → Act → World → Prop}
theorem wpL_skip {o : Oper} (hg : Region.wanted o (yielded ops a.tmps) = false) (h : wpList P ops Q rest (a.put o.dst undef) w) : wpList P ops Q (o :: rest) a w :=
  wpList_step fun K hK => by rw [if_neg (by rw [hg]; exact Bool.false_ne_true)]; exact hK _ _ h
theorem wpL_move {x : Operand} {v : Value} (hx : a.eval x = v)
    (hg : Region.wanted { dst := dst, op := .move x, type := ty, pos := pos, after := after, guard := guard } (yielded ops a.tmps) = true)
    (h : wpList P ops Q rest (a.put dst (v)) w) : wpList P ops Q ({ dst := dst, op := .move x, type := ty, pos := pos, after := after, guard := guard } :: rest) a w :=
  wpList_ex hg (ex_move (ρ := a.eval) hx w) h
theorem wpL_assign {x : Operand} {v : Value} (hx : a.eval x = v)
    (hg : Region.wanted { dst := dst, op := .assign x, type := ty, pos := pos, after := after, guard := guard } (yielded ops a.tmps) = true)
    (h : wpList P ops Q rest (a.put dst (v)) w) : wpList P ops Q ({ dst := dst, op := .assign x, type := ty, pos := pos, after := after, guard := guard } :: rest) a w :=
  wpList_ex hg (ex_assign (ρ := a.eval) hx w) h
theorem wpL_not {t : TypeId} {x : Operand} {b : Bool} (hx : a.eval x = .bool b)
    (hg : Region.wanted { dst := dst, op := .unOp .not t x, type := ty, pos := pos, after := after, guard := guard } (yielded ops a.tmps) = true)
    (h : wpList P ops Q rest (a.put dst (.bool !b)) w) : wpList P ops Q ({ dst := dst, op := .unOp .not t x, type := ty, pos := pos, after := after, guard := guard } :: rest) a w :=
  wpList_ex hg (ex_not (ρ := a.eval) hx w) h
theorem wpL_cmp {op : BinOp} {t yt : TypeId} {x y : Operand} {k : IntKind} {p q : Int} {b : Bool} (ho : isCmp op = true) (hx : a.eval x = .int k p) (hy : a.eval y = .int k q) (hb : cmpB op p q = b)
    (hg : Region.wanted { dst := dst, op := .binOp op t x y yt, type := ty, pos := pos, after := after, guard := guard } (yielded ops a.tmps) = true)
    (h : wpList P ops Q rest (a.put dst (.bool b)) w) : wpList P ops Q ({ dst := dst, op := .binOp op t x y yt, type := ty, pos := pos, after := after, guard := guard } :: rest) a w :=
  wpList_ex hg (ex_cmp (ρ := a.eval) ho hx hy hb w) h
theorem wpL_arith {op : BinOp} {t yt : TypeId} {x y : Operand} {k : IntKind} {p q r : Int} (ho : isArith op = true) (hx : a.eval x = .int k p) (hy : a.eval y = .int k q) (hr : k.wrap (arithI op p q) = r)
    (hg : Region.wanted { dst := dst, op := .binOp op t x y yt, type := ty, pos := pos, after := after, guard := guard } (yielded ops a.tmps) = true)
    (h : wpList P ops Q rest (a.put dst (.int k r)) w) : wpList P ops Q ({ dst := dst, op := .binOp op t x y yt, type := ty, pos := pos, after := after, guard := guard } :: rest) a w :=
  wpList_ex hg (ex_arith (ρ := a.eval) ho hx hy hr w) h
theorem wpL_len {t : TypeId} {e : TypeId} (ht : P.underlying t = some (.slice e)) {x : Operand} {ao : Option Addr} {n c : Nat} (hx : a.eval x = .slice ao n c)
    (hg : Region.wanted { dst := dst, op := .call { callee := .builtin .len, args := #[x], argTypes := #[t] }, type := ty, pos := pos, after := after, guard := guard } (yielded ops a.tmps) = true)
    (h : wpList P ops Q rest (a.put dst (.int .i64 n)) w) : wpList P ops Q ({ dst := dst, op := .call { callee := .builtin .len, args := #[x], argTypes := #[t] }, type := ty, pos := pos, after := after, guard := guard } :: rest) a w :=
  wpList_ex hg (ex_len (ρ := a.eval) ht hx w) h
theorem wpL_pick {c x y : Operand} {b : Bool} {v : Value} (hc : a.eval c = .bool b) (hv : (if b then a.eval x else a.eval y) = v) (hg : Region.wanted { dst := dst, op := .pick c x y, type := ty, pos := pos, after := after, guard := guard } (yielded ops a.tmps) = true)
    (h : wpList P ops Q rest (a.put dst v) w) : wpList P ops Q ({ dst := dst, op := .pick c x y, type := ty, pos := pos, after := after, guard := guard } :: rest) a w :=
  wpList_ex hg (by simp only [execOp, hc, asBool, Sem.run_bind, Sem.run_pure, Result.andThen_ok, hv]) h
end
end Go.Proofs.Ytgkfopodhikckaa

/- Variables of the call's own that hold several cells: read and written, whole or in part. Over any program. No condition. -/
namespace Go.Proofs.Ytgkfopodhikckaa
open Go.RowKit
/-- A variable that holds these cells. -/
def objC (cs : List Value) (e : TypeId) : Obj := .cells cs.toArray e
section
variable {P : Program} {w0 w : World} {S : List Nat} {bs bs' : List (Nat × Obj)} {rows : List Row} {ops : Array Oper} {rest : List Oper} {a : Act} {Q : Exit → Act → World → Prop} {K : Act → Prop} {dst : Option Tmp} {ty : TypeId} {pos : String} {after : Array Edge} {guard : Option (Nat × Bool)}
theorem wpL_allocC {zs : List Value} {e : TypeId} (hz : (P.info? e).map (·.zero) = some (some (.agg zs.toArray))) (hH : Holds w0 S bs rows w)
    (hg : Region.wanted { dst := dst, op := .alloc e, type := ty, pos := pos, after := after, guard := guard } (yielded ops a.tmps) = true)
    (h : ∀ g w', Holds w0 S ((g, objC zs e) :: bs) rows w' → wpList P ops Q rest (a.put dst (.pointer (some ⟨g, 0, none⟩))) w') :
    wpList P ops Q ({ dst := dst, op := .alloc e, type := ty, pos := pos, after := after, guard := guard } :: rest) a w := wpList_alloc hz hH hg h
theorem wpL_alloc1 {z : Value} {e : TypeId} (hz : (P.info? e).map (·.zero) = some (some z)) (h1 : z.cells = #[z]) (hH : Holds w0 S bs rows w)
    (hg : Region.wanted { dst := dst, op := .alloc e, type := ty, pos := pos, after := after, guard := guard } (yielded ops a.tmps) = true)
    (h : ∀ g w', Holds w0 S ((g, objC [z] e) :: bs) rows w' → wpList P ops Q rest (a.put dst (.pointer (some ⟨g, 0, none⟩))) w') :
    wpList P ops Q ({ dst := dst, op := .alloc e, type := ty, pos := pos, after := after, guard := guard } :: rest) a w := by
  refine wpList_alloc hz hH hg fun g w' h' => h g w' ?_
  rw [h1] at h'
  exact h'
theorem wpL_boxC {cs : List Value} {e : TypeId} {x : Operand} (hx : a.eval x = .agg cs.toArray) (hH : Holds w0 S bs rows w)
    (hg : Region.wanted { dst := dst, op := .box e x, type := ty, pos := pos, after := after, guard := guard } (yielded ops a.tmps) = true)
    (h : ∀ g w', Holds w0 S ((g, objC cs e) :: bs) rows w' → wpList P ops Q rest (a.put dst (.pointer (some ⟨g, 0, none⟩))) w') :
    wpList P ops Q ({ dst := dst, op := .box e x, type := ty, pos := pos, after := after, guard := guard } :: rest) a w := wpList_box hx hH hg h
theorem wpL_box1 {v : Value} {e : TypeId} {x : Operand} (hx : a.eval x = v) (h1 : v.cells = #[v]) (hH : Holds w0 S bs rows w)
    (hg : Region.wanted { dst := dst, op := .box e x, type := ty, pos := pos, after := after, guard := guard } (yielded ops a.tmps) = true)
    (h : ∀ g w', Holds w0 S ((g, objC [v] e) :: bs) rows w' → wpList P ops Q rest (a.put dst (.pointer (some ⟨g, 0, none⟩))) w') :
    wpList P ops Q ({ dst := dst, op := .box e x, type := ty, pos := pos, after := after, guard := guard } :: rest) a w := by
  refine wpList_box hx hH hg fun g w' h' => h g w' ?_
  rw [h1] at h'
  exact h'
theorem ex_loadPart {ρ : Operand → Value} {t : TypeId} {n : Nat} (hA : AggT P t n) (hH : Holds w0 S bs rows w) {x : Operand} {g j : Nat} {cs vs : List Value} {e : TypeId}
    (hx : ρ x = .pointer (some ⟨g, j, none⟩)) (ho : Own bs g (objC cs e)) (hv : (cs.drop j).take n = vs) (hl : vs.length = n) :
    (execOp ρ { dst := dst, op := .load t x, type := ty, pos := pos, after := after, guard := guard }).run P w = .ok (.value (.agg vs.toArray)) w := by
  obtain ⟨d, hu, hd, hi⟩ := hA
  refine ex_load_agg hx hu hd hi hl (fun i u hu' => ?_)
  have hadd : (⟨g, j, none⟩ : Addr).add i = ⟨g, j + i, none⟩ := by unfold Addr.add; split <;> simp_all
  have hi' : i < n := by rw [← hl]; exact (List.getElem?_eq_some_iff.1 hu').1
  rw [hadd, cell_own hH ho (j + i), List.getElem?_toArray]
  rw [← hv, List.getElem?_take, if_pos hi', List.getElem?_drop] at hu'
  exact hu'
theorem wpL_loadPart {t : TypeId} {n : Nat} (hA : AggT P t n) (hH : Holds w0 S bs rows w) {x : Operand} {g j : Nat} {cs vs : List Value} {e : TypeId}
    (hx : a.eval x = .pointer (some ⟨g, j, none⟩)) (ho : Own bs g (objC cs e)) (hv : (cs.drop j).take n = vs) (hl : vs.length = n)
    (hg : Region.wanted { dst := dst, op := .load t x, type := ty, pos := pos, after := after, guard := guard } (yielded ops a.tmps) = true)
    (h : wpList P ops Q rest (a.put dst (.agg vs.toArray)) w) : wpList P ops Q ({ dst := dst, op := .load t x, type := ty, pos := pos, after := after, guard := guard } :: rest) a w :=
  wpList_ex hg (ex_loadPart hA hH hx ho hv hl) h
theorem wpQ_loadPart {t : TypeId} {n : Nat} (hA : AggT P t n) {x : Operand} {g j : Nat} {cs vs : List Value} {e : TypeId}
    (hx : a.eval x = .pointer (some ⟨g, j, none⟩)) (ho : Own bs g (objC cs e)) (hv : (cs.drop j).take n = vs) (hl : vs.length = n)
    (hg : Region.wanted { dst := dst, op := .load t x, type := ty, pos := pos, after := after, guard := guard } (yielded ops a.tmps) = true)
    (h : wpQuiet P ops (fun w' => Holds w0 S bs rows w') K rest (a.put dst (.agg vs.toArray))) : wpQuiet P ops (fun w' => Holds w0 S bs rows w') K ({ dst := dst, op := .load t x, type := ty, pos := pos, after := after, guard := guard } :: rest) a :=
  wpQuiet_ex hg (fun w hw => ex_loadPart hA hw hx ho hv hl) h
/-- A whole variable. -/
theorem wpL_loadC {t : TypeId} {n : Nat} (hA : AggT P t n) (hH : Holds w0 S bs rows w) {x : Operand} {g : Nat} {cs : List Value} {e : TypeId}
    (hx : a.eval x = .pointer (some ⟨g, 0, none⟩)) (ho : Own bs g (objC cs e)) (hl : cs.length = n)
    (hg : Region.wanted { dst := dst, op := .load t x, type := ty, pos := pos, after := after, guard := guard } (yielded ops a.tmps) = true)
    (h : wpList P ops Q rest (a.put dst (.agg cs.toArray)) w) : wpList P ops Q ({ dst := dst, op := .load t x, type := ty, pos := pos, after := after, guard := guard } :: rest) a w :=
  wpL_loadPart hA hH hx ho (by rw [List.drop_zero, ← hl, List.take_length]) hl hg h
theorem wpQ_loadC {t : TypeId} {n : Nat} (hA : AggT P t n) {x : Operand} {g : Nat} {cs : List Value} {e : TypeId}
    (hx : a.eval x = .pointer (some ⟨g, 0, none⟩)) (ho : Own bs g (objC cs e)) (hl : cs.length = n)
    (hg : Region.wanted { dst := dst, op := .load t x, type := ty, pos := pos, after := after, guard := guard } (yielded ops a.tmps) = true)
    (h : wpQuiet P ops (fun w' => Holds w0 S bs rows w') K rest (a.put dst (.agg cs.toArray))) : wpQuiet P ops (fun w' => Holds w0 S bs rows w') K ({ dst := dst, op := .load t x, type := ty, pos := pos, after := after, guard := guard } :: rest) a :=
  wpQ_loadPart hA hx ho (by rw [List.drop_zero, ← hl, List.take_length]) hl hg h
theorem ex_load1 {ρ : Operand → Value} {t : TypeId} (hA : OneT P t) (hH : Holds w0 S bs rows w) {x : Operand} {g j : Nat} {cs : List Value} {v : Value} {e : TypeId}
    (hx : ρ x = .pointer (some ⟨g, j, none⟩)) (ho : Own bs g (objC cs e)) (hv : cs[j]? = some v) :
    (execOp ρ { dst := dst, op := .load t x, type := ty, pos := pos, after := after, guard := guard }).run P w = .ok (.value v) w := by
  obtain ⟨d, hu, hd⟩ := hA
  exact ex_load_one hx hu hd ((cell_own hH ho j).trans (by rw [List.getElem?_toArray]; exact hv))
theorem wpL_load1 {t : TypeId} (hA : OneT P t) (hH : Holds w0 S bs rows w) {x : Operand} {g j : Nat} {cs : List Value} {v : Value} {e : TypeId}
    (hx : a.eval x = .pointer (some ⟨g, j, none⟩)) (ho : Own bs g (objC cs e)) (hv : cs[j]? = some v)
    (hg : Region.wanted { dst := dst, op := .load t x, type := ty, pos := pos, after := after, guard := guard } (yielded ops a.tmps) = true)
    (h : wpList P ops Q rest (a.put dst v) w) : wpList P ops Q ({ dst := dst, op := .load t x, type := ty, pos := pos, after := after, guard := guard } :: rest) a w :=
  wpList_ex hg (ex_load1 hA hH hx ho hv) h
theorem wpQ_load1 {t : TypeId} (hA : OneT P t) {x : Operand} {g j : Nat} {cs : List Value} {v : Value} {e : TypeId}
    (hx : a.eval x = .pointer (some ⟨g, j, none⟩)) (ho : Own bs g (objC cs e)) (hv : cs[j]? = some v)
    (hg : Region.wanted { dst := dst, op := .load t x, type := ty, pos := pos, after := after, guard := guard } (yielded ops a.tmps) = true)
    (h : wpQuiet P ops (fun w' => Holds w0 S bs rows w') K rest (a.put dst v)) : wpQuiet P ops (fun w' => Holds w0 S bs rows w') K ({ dst := dst, op := .load t x, type := ty, pos := pos, after := after, guard := guard } :: rest) a :=
  wpQuiet_ex hg (fun w hw => ex_load1 hA hw hx ho hv) h
/-- A part is written. -/
theorem wpL_storePart {t : TypeId} {x y : Operand} {g j : Nat} {vs cs : List Value} {sz : Nat} {v : Value} {e : TypeId}
    (hx : a.eval x = .pointer (some ⟨g, j, none⟩)) (hy : a.eval y = v) (hvs : v.cells.toList = vs) (hi : (P.info? t).map (·.size) = some sz)
    (hH : Holds w0 S bs rows w) (ht : Turn bs g (objC cs e) (objC (cs.take j ++ vs ++ cs.drop (j + sz)) e) bs') (hv : vs.length = sz) (h1 : ∀ u ∈ vs, u.oneCell' = true) (hc : j + sz ≤ cs.length)
    (hg : Region.wanted { dst := dst, op := .store t x y, type := ty, pos := pos, after := after, guard := guard } (yielded ops a.tmps) = true)
    (h : ∀ w', Holds w0 S bs' rows w' → wpList P ops Q rest (a.put dst undef) w') :
    wpList P ops Q ({ dst := dst, op := .store t x y, type := ty, pos := pos, after := after, guard := guard } :: rest) a w := by
  subst hvs
  have hblk : w.heap[g]? = some (.cells cs.toArray e (0, 0)) := hH.at ht.own
  refine wpList_exskip hg (w' := w.setRow g (cs.take j ++ v.cells.toList ++ cs.drop (j + sz)).toArray) ?_ (h _ (hH.turn ht (setRow_heap w g cs.toArray _ e (0, 0) hblk) rfl rfl rfl (by simp) fun k _ hk => setRow_other w g k _ hk))
  have hs := run_storeCells_at P g j e v.cells.toList 0 cs.toArray w hblk (by simp at hv ⊢; omega) h1
  simp only [Nat.add_zero, hv] at hs
  have hvz : v.cells.size = sz := by simpa using hv
  simp only [execOp, hx, hy, Instr.storeAt, Instr.sureAddr, storeVar, Sem.run_bind, Sem.run_pure, Result.andThen_ok, run_sizeOf hi, hvz, ne_eq, not_true_eq_false, if_false, hs]
/-- One cell is written. -/
theorem wpL_store1 {t : TypeId} {x y : Operand} {g j : Nat} {cs : List Value} {v : Value} {e : TypeId}
    (hx : a.eval x = .pointer (some ⟨g, j, none⟩)) (hy : a.eval y = v) (hvs : v.cells = #[v]) (hi : (P.info? t).map (·.size) = some 1)
    (hH : Holds w0 S bs rows w) (ht : Turn bs g (objC cs e) (objC (cs.set j v) e) bs') (h1 : v.oneCell' = true) (hc : j < cs.length)
    (hg : Region.wanted { dst := dst, op := .store t x y, type := ty, pos := pos, after := after, guard := guard } (yielded ops a.tmps) = true)
    (h : ∀ w', Holds w0 S bs' rows w' → wpList P ops Q rest (a.put dst undef) w') :
    wpList P ops Q ({ dst := dst, op := .store t x y, type := ty, pos := pos, after := after, guard := guard } :: rest) a w := by
  refine wpL_storePart (e := e) (cs := cs) (vs := [v]) hx hy (by rw [hvs]) hi hH ?_ rfl (by simpa using h1) (by omega) hg h
  rw [List.set_eq_take_append_cons_drop, if_pos hc] at ht
  simpa using ht
/-- A whole variable is written. -/
theorem wpL_storeC {t : TypeId} {x y : Operand} {g : Nat} {vs cs : List Value} {sz : Nat} {e : TypeId}
    (hx : a.eval x = .pointer (some ⟨g, 0, none⟩)) (hy : a.eval y = .agg vs.toArray) (hi : (P.info? t).map (·.size) = some sz)
    (hH : Holds w0 S bs rows w) (ht : Turn bs g (objC cs e) (objC vs e) bs') (hv : vs.length = sz) (h1 : ∀ u ∈ vs, u.oneCell' = true) (hc : cs.length = sz)
    (hg : Region.wanted { dst := dst, op := .store t x y, type := ty, pos := pos, after := after, guard := guard } (yielded ops a.tmps) = true)
    (h : ∀ w', Holds w0 S bs' rows w' → wpList P ops Q rest (a.put dst undef) w') :
    wpList P ops Q ({ dst := dst, op := .store t x y, type := ty, pos := pos, after := after, guard := guard } :: rest) a w := by
  refine wpL_storePart (e := e) (cs := cs) (vs := vs) hx hy (by simp [Value.cells]) hi hH ?_ hv h1 (by omega) hg h
  have : cs.take 0 ++ vs ++ cs.drop (0 + sz) = vs := by rw [List.drop_eq_nil_of_le (by omega)]; simp
  rw [this]
  exact ht
theorem resC {tmps : Array Value} {n : Nat} {t e : TypeId} (hA : AggT P t n) {r : Tmp} {g : Nat} {cs : List Value} (hH : Holds w0 S bs rows w) (ht : tmps.getD r undef = .pointer (some ⟨g, 0, none⟩)) (ho : Own bs g (objC cs e)) (hl : cs.length = n) : ResAt P w tmps (.cell r t) (.agg cs.toArray) := by
  obtain ⟨d, hu, hd, hi⟩ := hA
  refine ⟨_, ht, ?_⟩
  refine run_loadVar_agg hu hd hi hl fun j u hu' => ?_
  have hadd : (⟨g, 0, none⟩ : Addr).add j = ⟨g, j, none⟩ := by unfold Addr.add; split <;> simp_all
  rw [hadd, cell_own hH ho j, List.getElem?_toArray]
  exact hu'
end
def valW (l : List W32) : Value := .agg (l.map wrd).toArray
theorem wrd_one (l : List W32) : ∀ u ∈ l.map wrd, u.oneCell' = true := by
  intro u hu; obtain ⟨x, _, rfl⟩ := List.mem_map.1 hu; rfl
/-- The state of the computation. -/
structure St where
  (a b c d e f g h : W32)
def St.ws (s : St) : List W32 := [s.a, s.b, s.c, s.d, s.e, s.f, s.g, s.h]
end Go.Proofs.Ytgkfopodhikckaa

/- What the table of types says of the types that the code uses. No condition. -/
namespace Go.Proofs.Ytgkfopodhikckaa
open Go.RowKit
section
variable {P : Program} {w0 w : World} {S : List Nat} {bs : List (Nat × Obj)} {rows : List Row} {ops : Array Oper} {rest : List Oper} {a : Act} {Q : Exit → Act → World → Prop} {K : Act → Prop} {dst : Option Tmp} {ty : TypeId} {pos : String} {after : Array Edge} {guard : Option (Nat × Bool)}
/-- A variable that holds an array of bytes is read whole. -/
theorem wpL_loadArr {t : TypeId} {n : Nat} {v : Arr n} (hA : AggT P t n) (hH : Holds w0 S bs rows w) {x : Operand} {g : Nat} {e : TypeId} (hx : a.eval x = .pointer (some ⟨g, 0, none⟩)) (ho : Own bs g (objC v.cells e))
    (hg : Region.wanted { dst := dst, op := .load t x, type := ty, pos := pos, after := after, guard := guard } (yielded ops a.tmps) = true)
    (h : wpList P ops Q rest (a.put dst v.val) w) : wpList P ops Q ({ dst := dst, op := .load t x, type := ty, pos := pos, after := after, guard := guard } :: rest) a w :=
  wpL_loadC hA hH hx ho (Arr.len v) hg h
theorem wpQ_loadArr {t : TypeId} {n : Nat} {v : Arr n} (hA : AggT P t n) {x : Operand} {g : Nat} {e : TypeId} (hx : a.eval x = .pointer (some ⟨g, 0, none⟩)) (ho : Own bs g (objC v.cells e))
    (hg : Region.wanted { dst := dst, op := .load t x, type := ty, pos := pos, after := after, guard := guard } (yielded ops a.tmps) = true)
    (h : wpQuiet P ops (fun w' => Holds w0 S bs rows w') K rest (a.put dst v.val)) : wpQuiet P ops (fun w' => Holds w0 S bs rows w') K ({ dst := dst, op := .load t x, type := ty, pos := pos, after := after, guard := guard } :: rest) a :=
  wpQ_loadC hA hx ho (Arr.len v) hg h
theorem wpL_boxArr {n : Nat} {v : Arr n} {e : TypeId} {x : Operand} (hx : a.eval x = v.val) (hH : Holds w0 S bs rows w)
    (hg : Region.wanted { dst := dst, op := .box e x, type := ty, pos := pos, after := after, guard := guard } (yielded ops a.tmps) = true)
    (h : ∀ g w', Holds w0 S ((g, objC v.cells e) :: bs) rows w' → wpList P ops Q rest (a.put dst (.pointer (some ⟨g, 0, none⟩))) w') :
    wpList P ops Q ({ dst := dst, op := .box e x, type := ty, pos := pos, after := after, guard := guard } :: rest) a w := wpL_boxC (cs := v.cells) hx hH hg h
theorem wpL_storeArr {t : TypeId} {n : Nat} {v : Arr n} {x y : Operand} {g : Nat} {cs : List Value} {e : TypeId} {bs' : List (Nat × Obj)} (hi : (P.info? t).map (·.size) = some n)
    (hH : Holds w0 S bs rows w) (hx : a.eval x = .pointer (some ⟨g, 0, none⟩)) (hy : a.eval y = v.val) (ht : Turn bs g (objC cs e) (objC v.cells e) bs') (hc : cs.length = n)
    (hg : Region.wanted { dst := dst, op := .store t x y, type := ty, pos := pos, after := after, guard := guard } (yielded ops a.tmps) = true)
    (h : ∀ w', Holds w0 S bs' rows w' → wpList P ops Q rest (a.put dst undef) w') :
    wpList P ops Q ({ dst := dst, op := .store t x y, type := ty, pos := pos, after := after, guard := guard } :: rest) a w :=
  wpL_storeC hx hy hi hH ht (Arr.len v) (cells_one v) hc hg h
end
theorem kO3 : OneT Try.prog 3 := ⟨_, Try.underlying3, rfl⟩
theorem kS3 : (Try.prog.info? 3).map (·.size) = some 1 := by kernel_rfl
theorem kZ3 : (Try.prog.info? 3).map (·.zero) = some (some (.int .i64 0)) := by kernel_rfl
theorem kS4 : (Try.prog.info? 4).map (·.size) = some 1 := by kernel_rfl
theorem kZ4 : (Try.prog.info? 4).map (·.zero) = some (some (.bool false)) := by kernel_rfl
theorem kO5 : OneT Try.prog 5 := ⟨_, Try.underlying5, rfl⟩
theorem kS5 : (Try.prog.info? 5).map (·.size) = some 1 := by kernel_rfl
theorem kO22 : OneT Try.prog 22 := ⟨_, Try.underlying22, rfl⟩
theorem kS24 : (Try.prog.info? 24).map (·.size) = some 32 := by kernel_rfl
theorem kZ24 : (Try.prog.info? 24).map (·.zero) = some (some (.agg ((Arr.zero 32).cells : List Value).toArray)) := by kernel_rfl
theorem kS25 : (Try.prog.info? 25).map (·.size) = some 32 := by kernel_rfl
theorem kZ25 : (Try.prog.info? 25).map (·.zero) = some (some (.agg ((Arr.zero 32).cells : List Value).toArray)) := by kernel_rfl
theorem kO30 : OneT Try.prog 30 := ⟨_, Try.underlying30, rfl⟩
theorem kA34 : AggT Try.prog 34 16 := ⟨_, Try.underlying34, rfl, by kernel_rfl⟩
theorem kS34 : (Try.prog.info? 34).map (·.size) = some 16 := by kernel_rfl
theorem kZ34 : (Try.prog.info? 34).map (·.zero) = some (some (.agg ((Arr.zero 16).cells : List Value).toArray)) := by kernel_rfl
theorem kA41 : AggT Try.prog 41 16 := ⟨_, Try.underlying41, rfl, by kernel_rfl⟩
theorem kS41 : (Try.prog.info? 41).map (·.size) = some 16 := by kernel_rfl
theorem kZ41 : (Try.prog.info? 41).map (·.zero) = some (some (.agg ((Arr.zero 16).cells : List Value).toArray)) := by kernel_rfl
theorem kO46 : OneT Try.prog 46 := ⟨_, Try.underlying46, rfl⟩
theorem kA56 : AggT Try.prog 56 16 := ⟨_, Try.underlying56, rfl, by kernel_rfl⟩
theorem kS56 : (Try.prog.info? 56).map (·.size) = some 16 := by kernel_rfl
theorem kZ56 : (Try.prog.info? 56).map (·.zero) = some (some (.agg ((Arr.zero 16).cells : List Value).toArray)) := by kernel_rfl
theorem kR34 : ArrT Try.prog 34 16 := ⟨_, _, Try.underlying34, Try.underlying5, by kernel_rfl, by kernel_rfl⟩
theorem kE22 : Elem Try.prog 22 5 1 1 := Elem.mk' (.int .u8 0) Try.underlying22 (by kernel_rfl) (by kernel_rfl) (by omega) (by omega)
theorem kE30 : Elem Try.prog 30 41 16 16 := Elem.mk' (.agg (List.replicate 16 (byt 0 : Value) : List Value).toArray) Try.underlying30 (by kernel_rfl) (by kernel_rfl) (by omega) (by omega)
theorem kE46 : Elem Try.prog 46 34 16 16 := Elem.mk' (.agg (List.replicate 16 (byt 0 : Value) : List Value).toArray) Try.underlying46 (by kernel_rfl) (by kernel_rfl) (by omega) (by omega)
theorem kE62 : Elem Try.prog 62 22 1 24 := Elem.mk' (.slice none 0 0) Try.underlying62 (by kernel_rfl) (by kernel_rfl) (by omega) (by omega)
theorem kE125 : Elem Try.prog 125 46 1 24 := Elem.mk' (.slice none 0 0) Try.underlying125 (by kernel_rfl) (by kernel_rfl) (by omega) (by omega)
theorem kB37 : Body Try.prog 37 := ⟨_, _, Try.func37, rfl, rfl⟩
theorem kB77 : Body Try.prog 77 := ⟨_, _, Try.func77, rfl, rfl⟩
theorem kB78 : Body Try.prog 78 := ⟨_, _, Try.func78, rfl, rfl⟩
end Go.Proofs.Ytgkfopodhikckaa

/- right, RotateLeft32, rotate, round, plus, initial of sha256. No condition. -/
namespace Go.Proofs.Ytgkfopodhikckaa
open Go.RowKit
def rotr (x : W32) (n : Nat) : W32 := x >>> n ||| x <<< (32 - n)
def RetW (w : World) (x : W32) (e : Ending) (w' : World) : Prop := e = .returned (wrd x) ∧ Below w.heap.size w w'
theorem RetW.mk {w w' : World} {x y : W32} (h : x = y) (hb : Below w.heap.size w w') : RetW w y (.returned (wrd x)) w' := ⟨by rw [h], hb⟩
/-- The counts that occur. -/
def rotN (n : Int) : Prop := n = 2 ∨ n = 6 ∨ n = 7 ∨ n = 11 ∨ n = 13 ∨ n = 17 ∨ n = 18 ∨ n = 19 ∨ n = 22 ∨ n = 25
theorem or_rot (x : W32) (m n : Nat) (h : m + n = 32) : x <<< m ||| x >>> n = rotr x n := by
  unfold rotr; rw [BitVec.or_comm, show m = 32 - n by omega]
theorem rot_count {n : Int} (hn : rotN n) : bits .and .u64 (IntKind.u64.wrap (-n)) 31 = 32 - n ∧ 0 ≤ n ∧ n < 32 ∧ 0 ≤ 32 - n ∧ 32 - n < 32 := by
  rcases hn with rfl | rfl | rfl | rfl | rfl | rfl | rfl | rfl | rfl | rfl <;> decide
set_option maxHeartbeats 1000000 in
theorem rotl_any (w : World) (x : W32) (n : Int) (hn : rotN n) : Calls Try.prog 94 #[wrd x, .int .i64 (-n)] w (RetW w (rotr x n.toNat)) := by
  obtain ⟨e, h1, h2, h3, h4⟩ := rot_count hn
  clear hn
  have e2 : (32 : Int) - (32 - n) = n := by omega
  have HR := hid (show x <<< (32 - n).toNat ||| x >>> n.toNat = rotr x n.toNat from or_rot x _ _ (by omega))
  go_enter Try.func94, Try.ntmps94
  go_wp2_with (first
    | ((with_reducible apply wpL_wshl (n := 32 - n)); rfl; rfl; (exact ⟨h3, h4⟩); rfl)
    | ((with_reducible apply wpL_wshr (n := n)); rfl; rfl; (exact ⟨h1, h2⟩); rfl)
    | ((with_reducible apply wpL_wop); rfl; rfl; rfl; rfl))
  go_ret
  exact RetW.mk HR.out (Below.refl _ _)
set_option maxHeartbeats 1000000 in
theorem right_any (w : World) (x : W32) (n : Int) (hn : rotN n) : Calls Try.prog 89 #[wrd x, .int .i64 n] w (RetW w (rotr x n.toNat)) := by
  have HH := hid hn
  rcases hn with rfl | rfl | rfl | rfl | rfl | rfl | rfl | rfl | rfl | rfl
  all_goals
    go_enter Try.func89, Try.ntmps89
    go_wp2_with (go_at_call 94; refine (rotl_any _ x _ HH.out).mono ?_; rintro e w2 ⟨rfl, hb⟩; (have HB := hid hb; clear hb))
    go_ret
    exact RetW.mk rfl HB.out
end Go.Proofs.Ytgkfopodhikckaa

/- rotate, round, plus, initial. No condition. -/
namespace Go.Proofs.Ytgkfopodhikckaa
open Go.RowKit
theorem A115 : AggT Try.prog 115 8 := ⟨_, Try.underlying115, rfl, by kernel_rfl⟩
theorem O105 : OneT Try.prog 105 := ⟨_, Try.underlying105, rfl⟩
theorem S105 : (Try.prog.info? 105).map (·.size) = some 1 := by kernel_rfl
theorem S115 : (Try.prog.info? 115).map (·.size) = some 8 := by kernel_rfl
theorem Z115 : (Try.prog.info? 115).map (·.zero) = some (some (.agg ((List.replicate 8 (0 : W32)).map wrd).toArray)) := by kernel_rfl
theorem F115 (f : Nat) (h : f < 8) : FieldT Try.prog 115 f f := by
  match f, h with
  | 0, _ => exact ⟨_, _, 0, Try.underlying115, rfl, rfl, by kernel_rfl⟩
  | 1, _ => exact ⟨_, _, 0, Try.underlying115, rfl, rfl, by kernel_rfl⟩
  | 2, _ => exact ⟨_, _, 0, Try.underlying115, rfl, rfl, by kernel_rfl⟩
  | 3, _ => exact ⟨_, _, 0, Try.underlying115, rfl, rfl, by kernel_rfl⟩
  | 4, _ => exact ⟨_, _, 0, Try.underlying115, rfl, rfl, by kernel_rfl⟩
  | 5, _ => exact ⟨_, _, 0, Try.underlying115, rfl, rfl, by kernel_rfl⟩
  | 6, _ => exact ⟨_, _, 0, Try.underlying115, rfl, rfl, by kernel_rfl⟩
  | 7, _ => exact ⟨_, _, 0, Try.underlying115, rfl, rfl, by kernel_rfl⟩
theorem B89 : Body Try.prog 89 := ⟨_, _, Try.func89, rfl, rfl⟩
theorem build115 (s : St) (w : World) : (Instr.build 115 #[(0, wrd s.a), (1, wrd s.b), (2, wrd s.c), (3, wrd s.d), (4, wrd s.e), (5, wrd s.f), (6, wrd s.g), (7, wrd s.h)]).run Try.prog w = .ok (valW s.ws) w := by kernel_rfl
def t1f (s : St) (k w : W32) : W32 := s.h + (rotr s.e 6 ^^^ rotr s.e 11 ^^^ rotr s.e 25) + (s.e &&& s.f ^^^ ~~~s.e &&& s.g) + k + w
def t2f (s : St) : W32 := (rotr s.a 2 ^^^ rotr s.a 13 ^^^ rotr s.a 22) + (s.a &&& s.b ^^^ s.a &&& s.c ^^^ s.b &&& s.c)
def roundS (s : St) (k w : W32) : St := ⟨t1f s k w + t2f s, s.a, s.b, s.c, s.d + t1f s k w, s.e, s.f, s.g⟩
def plusS (s o : St) : St := ⟨s.a + o.a, s.b + o.b, s.c + o.c, s.d + o.d, s.e + o.e, s.f + o.f, s.g + o.g, s.h + o.h⟩
def initS : St := ⟨0x6a09e667, 0xbb67ae85, 0x3c6ef372, 0xa54ff53a, 0x510e527f, 0x9b05688c, 0x1f83d9ab, 0x5be0cd19⟩
/-- A call that returns an aggregate of words. -/
def RetL (w : World) (l : List W32) (e : Ending) (w' : World) : Prop := e = .returned (valW l) ∧ Below w.heap.size w w'
set_option maxHeartbeats 1000000 in
theorem rotate_any (w : World) (x : W32) (n : Int) (h1 : 0 < n) (h2 : n < 32) : Calls Try.prog 60 #[wrd x, .int .i64 n] w (RetW w (rotr x n.toNat)) := by
  have HH := hid (Holds.init w)
  have HR := hid (show x >>> n.toNat ||| x <<< (32 - n).toNat = rotr x n.toNat by unfold rotr; rw [show (32 - n).toNat = 32 - n.toNat by omega])
  go_enter Try.func60, Try.ntmps60
  go_wp2
  refine wp_region_holds (by kernel_rfl) (by kernel_rfl) HH.out ?_
  repeat ((first
    | ((with_reducible apply wpQ_skip); rfl; skip)
    | ((with_reducible apply wpQ_wshl (n := 32 - n)); rfl; rfl; (exact ⟨by omega, by omega⟩); rfl)
    | ((with_reducible apply wpQ_wshr (n := n)); rfl; rfl; (exact ⟨by omega, by omega⟩); rfl)
    | ((with_reducible apply wpQ_wop); rfl; rfl; rfl; rfl)
    | ((with_reducible apply wpQ_move); rfl; rfl)
    | ((with_reducible apply wpQ_assign); rfl; rfl)
    | ((with_reducible apply wpQ_pick); rfl; rfl; rfl)
    | ((with_reducible apply wpQ_not); rfl; rfl)
    | ((with_reducible apply wpQ_cmp (b := true)); rfl; rfl; rfl; (first | rfl | assumption | (simp only [cmpB, decide_eq_true_eq, decide_eq_false_iff_not, beq_iff_eq, bne_iff_ne, ne_eq, beq_eq_false_iff_ne, bne_eq_false_iff_eq, gt_iff_lt, ge_iff_le]; omega) | (simp; omega)); rfl)
    | ((with_reducible apply wpQ_cmp (b := false)); rfl; rfl; rfl; (first | rfl | assumption | (simp only [cmpB, decide_eq_true_eq, decide_eq_false_iff_not, beq_iff_eq, bne_iff_ne, ne_eq, beq_eq_false_iff_ne, bne_eq_false_iff_eq, gt_iff_lt, ge_iff_le]; omega) | (simp; omega)); rfl)
    | ((with_reducible apply wpQ_cmp); rfl; rfl; rfl; rfl; rfl)
    | ((with_reducible apply wpQ_arith); rfl; rfl; rfl; (exact IntWalk.i64_in _ (by (try simp only [arithI]); omega)); rfl)); simp only [arithI, Act.put, Act.eval, List.setIfInBounds_toArray, List.set_cons_succ, List.set_cons_zero, Array.getD_eq_getD_getElem?, List.getElem?_toArray, List.getElem?_cons_succ, List.getElem?_cons_zero, Option.getD_some])
  refine wpQuiet_nil ?_
  intro wq hq_
  have HQ := hid hq_
  clear hq_
  go_wp2
  go_ret
  exact RetW.mk HR.out HQ.out.below
set_option maxHeartbeats 1000000 in
theorem initial_any (w : World) : Calls Try.prog 63 #[] w (RetL w initS.ws) := by
  have HH := hid (Holds.init w)
  go_enter Try.func63, Try.ntmps63
  go_wp2_with (first
    | ((with_reducible apply wpL_allocC Z115 HH.out); rfl; (intro g_ w_ hq_; clear HH; have HH := hid hq_; clear hq_))
    | ((with_reducible apply wpList_build (v := valW initS.ws)); go_must (((exact build115 initS); rfl)))
    | ((with_reducible apply wpL_storeC (vs := initS.ws.map wrd) (x := .tmp 0) (sz := 8)); go_must ((rfl; rfl; (exact S115); (exact HH.out); (exact .here); rfl; (exact wrd_one _); rfl; rfl; (intro w_ hq_; clear HH; have HH := hid hq_; clear hq_)))))
  refine bodyPost_ret (res1 rfl (resC A115 HH.out (by rfl) .here rfl)) rfl ?_
  exact ⟨rfl, HH.out.below⟩
set_option maxHeartbeats 1000000 in
theorem plus_any (w : World) (s o : St) : Calls Try.prog 91 #[valW s.ws, valW o.ws] w (RetL w (plusS s o).ws) := by
  have HH := hid (Holds.init w)
  go_enter Try.func91, Try.ntmps91
  go_wp2_with (first
    | ((first
        | ((with_reducible apply wpL_skip); rfl; skip)
        | ((with_reducible apply wpL_boxC (cs := s.ws.map wrd) (x := .tmp 0)); rfl; (exact HH.out); rfl; (intro g_ w_ hq_; clear HH; have HH := hid hq_; clear hq_))
        | ((with_reducible apply wpL_boxC (cs := o.ws.map wrd) (x := .tmp 1)); rfl; (exact HH.out); rfl; (intro g_ w_ hq_; clear HH; have HH := hid hq_; clear hq_))
        | ((with_reducible apply wpL_allocC Z115 HH.out); rfl; (intro g_ w_ hq_; clear HH; have HH := hid hq_; clear hq_))
        | ((with_reducible apply wpL_fieldAddr (t := 115)); (exact F115 _ (by decide)); rfl; rfl)
        | ((with_reducible apply wpL_load1 O105 HH.out); rfl; (first | exact .there .here | exact .there (.there .here)); rfl; rfl)
        | ((with_reducible apply wpL_wop); rfl; rfl; rfl; rfl)
        | ((with_reducible apply wpList_build (v := valW (plusS s o).ws)); go_must (((exact build115 (plusS s o)); rfl)))
        | ((with_reducible apply wpL_storeC (vs := (plusS s o).ws.map wrd) (x := .tmp 4) (sz := 8)); go_must ((rfl; rfl; (exact S115); (exact HH.out); (exact .here); rfl; (exact wrd_one _); rfl; rfl; (intro w_ hq_; clear HH; have HH := hid hq_; clear hq_))))
        | ((with_reducible apply wpL_move); rfl; rfl)
        | ((with_reducible apply wpL_assign); rfl; rfl)
        | ((with_reducible apply wpL_pick); rfl; rfl; rfl)
        | ((with_reducible apply wpL_not); rfl; rfl)
        | ((with_reducible apply wpL_cmp (b := true)); rfl; rfl; rfl; (first | rfl | assumption | (simp only [cmpB, decide_eq_true_eq, decide_eq_false_iff_not, beq_iff_eq, bne_iff_ne, ne_eq, beq_eq_false_iff_ne, bne_eq_false_iff_eq, gt_iff_lt, ge_iff_le]; omega) | (simp; omega)); rfl)
        | ((with_reducible apply wpL_cmp (b := false)); rfl; rfl; rfl; (first | rfl | assumption | (simp only [cmpB, decide_eq_true_eq, decide_eq_false_iff_not, beq_iff_eq, bne_iff_ne, ne_eq, beq_eq_false_iff_ne, bne_eq_false_iff_eq, gt_iff_lt, ge_iff_le]; omega) | (simp; omega)); rfl)
        | ((with_reducible apply wpL_cmp); rfl; rfl; rfl; rfl; rfl)
        | ((with_reducible apply wpL_arith); rfl; rfl; rfl; (exact IntWalk.i64_in _ (by (try simp only [arithI]); omega)); rfl)); (try simp only [arithI, Act.put, Act.eval, List.setIfInBounds_toArray, List.set_cons_succ, List.set_cons_zero, Array.getD_eq_getD_getElem?, List.getElem?_toArray, List.getElem?_cons_succ, List.getElem?_cons_zero, Option.getD_some])))
  refine bodyPost_ret (res1 rfl (resC A115 HH.out (by rfl) .here rfl)) rfl ?_
  exact ⟨rfl, HH.out.below⟩
end Go.Proofs.Ytgkfopodhikckaa

/- round, constants. No condition. -/
namespace Go.Proofs.Ytgkfopodhikckaa
open Go.RowKit
def kL : List W32 := [1116352408, 1899447441, 3049323471, 3921009573, 961987163, 1508970993, 2453635748, 2870763221, 3624381080, 310598401, 607225278, 1426881987, 1925078388, 2162078206, 2614888103, 3248222580, 3835390401, 4022224774, 264347078, 604807628, 770255983, 1249150122, 1555081692, 1996064986, 2554220882, 2821834349, 2952996808, 3210313671, 3336571891, 3584528711, 113926993, 338241895, 666307205, 773529912, 1294757372, 1396182291, 1695183700, 1986661051, 2177026350, 2456956037, 2730485921, 2820302411, 3259730800, 3345764771, 3516065817, 3600352804, 4094571909, 275423344, 430227734, 506948616, 659060556, 883997877, 958139571, 1322822218, 1537002063, 1747873779, 1955562222, 2024104815, 2227730452, 2361852424, 2428436474, 2756734187, 3204031479, 3329325298]
theorem A107 : AggT Try.prog 107 64 := ⟨_, Try.underlying107, rfl, by kernel_rfl⟩
theorem S107 : (Try.prog.info? 107).map (·.size) = some 64 := by kernel_rfl
theorem Z107 : (Try.prog.info? 107).map (·.zero) = some (some (.agg ((List.replicate 64 (0 : W32)).map wrd).toArray)) := by kernel_rfl
set_option maxRecDepth 100000 in
theorem build107 (w : World) : (Instr.build 107 #[(0, .int .u32 1116352408), (1, .int .u32 1899447441), (2, .int .u32 3049323471), (3, .int .u32 3921009573), (4, .int .u32 961987163), (5, .int .u32 1508970993), (6, .int .u32 2453635748), (7, .int .u32 2870763221), (8, .int .u32 3624381080), (9, .int .u32 310598401), (10, .int .u32 607225278), (11, .int .u32 1426881987), (12, .int .u32 1925078388), (13, .int .u32 2162078206), (14, .int .u32 2614888103), (15, .int .u32 3248222580), (16, .int .u32 3835390401), (17, .int .u32 4022224774), (18, .int .u32 264347078), (19, .int .u32 604807628), (20, .int .u32 770255983), (21, .int .u32 1249150122), (22, .int .u32 1555081692), (23, .int .u32 1996064986), (24, .int .u32 2554220882), (25, .int .u32 2821834349), (26, .int .u32 2952996808), (27, .int .u32 3210313671), (28, .int .u32 3336571891), (29, .int .u32 3584528711), (30, .int .u32 113926993), (31, .int .u32 338241895), (32, .int .u32 666307205), (33, .int .u32 773529912), (34, .int .u32 1294757372), (35, .int .u32 1396182291), (36, .int .u32 1695183700), (37, .int .u32 1986661051), (38, .int .u32 2177026350), (39, .int .u32 2456956037), (40, .int .u32 2730485921), (41, .int .u32 2820302411), (42, .int .u32 3259730800), (43, .int .u32 3345764771), (44, .int .u32 3516065817), (45, .int .u32 3600352804), (46, .int .u32 4094571909), (47, .int .u32 275423344), (48, .int .u32 430227734), (49, .int .u32 506948616), (50, .int .u32 659060556), (51, .int .u32 883997877), (52, .int .u32 958139571), (53, .int .u32 1322822218), (54, .int .u32 1537002063), (55, .int .u32 1747873779), (56, .int .u32 1955562222), (57, .int .u32 2024104815), (58, .int .u32 2227730452), (59, .int .u32 2361852424), (60, .int .u32 2428436474), (61, .int .u32 2756734187), (62, .int .u32 3204031479), (63, .int .u32 3329325298)]).run Try.prog w = .ok (valW kL) w := by kernel_rfl
set_option maxRecDepth 100000 in
set_option maxHeartbeats 2000000 in
theorem constants_any (w : World) : Calls Try.prog 88 #[] w (RetL w kL) := by
  have HH := hid (Holds.init w)
  go_enter Try.func88, Try.ntmps88
  go_wp2_with (first
    | ((first
        | ((with_reducible apply wpL_skip); rfl; skip)
        | ((with_reducible apply wpL_allocC Z107 HH.out); rfl; (intro g_ w_ hq_; clear HH; have HH := hid hq_; clear hq_))
        | ((with_reducible apply wpList_build (v := valW kL)); (exact build107); rfl)
        | ((with_reducible apply wpL_storeC (vs := kL.map wrd) (x := .tmp 0) (sz := 64)); rfl; rfl; (exact S107); (exact HH.out); (exact .here); rfl; (exact wrd_one _); rfl; rfl; (intro w_ hq_; clear HH; have HH := hid hq_; clear hq_))
        | ((with_reducible apply wpL_move); rfl; rfl)
        | ((with_reducible apply wpL_assign); rfl; rfl)
        | ((with_reducible apply wpL_pick); rfl; rfl; rfl)
        | ((with_reducible apply wpL_not); rfl; rfl)
        | ((with_reducible apply wpL_cmp (b := true)); rfl; rfl; rfl; (first | rfl | assumption | (simp only [cmpB, decide_eq_true_eq, decide_eq_false_iff_not, beq_iff_eq, bne_iff_ne, ne_eq, beq_eq_false_iff_ne, bne_eq_false_iff_eq, gt_iff_lt, ge_iff_le]; omega) | (simp; omega)); rfl)
        | ((with_reducible apply wpL_cmp (b := false)); rfl; rfl; rfl; (first | rfl | assumption | (simp only [cmpB, decide_eq_true_eq, decide_eq_false_iff_not, beq_iff_eq, bne_iff_ne, ne_eq, beq_eq_false_iff_ne, bne_eq_false_iff_eq, gt_iff_lt, ge_iff_le]; omega) | (simp; omega)); rfl)
        | ((with_reducible apply wpL_cmp); rfl; rfl; rfl; rfl; rfl)
        | ((with_reducible apply wpL_arith); rfl; rfl; rfl; (exact IntWalk.i64_in _ (by (try simp only [arithI]); omega)); rfl)); (try simp only [arithI, Act.put, Act.eval, List.setIfInBounds_toArray, List.set_cons_succ, List.set_cons_zero, Array.getD_eq_getD_getElem?, List.getElem?_toArray, List.getElem?_cons_succ, List.getElem?_cons_zero, Option.getD_some])))
  refine bodyPost_ret (res1 rfl (resC A107 HH.out (by rfl) .here rfl)) rfl ?_
  exact ⟨rfl, HH.out.below⟩
set_option maxRecDepth 100000 in
set_option maxHeartbeats 2000000 in
theorem constantsR_any (w : World) : Calls Try.prog 57 #[] w (RetL w kL) := by
  have HH := hid (Holds.init w)
  go_enter Try.func57, Try.ntmps57
  go_wp2_with (first
    | ((first
        | ((with_reducible apply wpL_skip); rfl; skip)
        | ((with_reducible apply wpL_allocC Z107 HH.out); rfl; (intro g_ w_ hq_; clear HH; have HH := hid hq_; clear hq_))
        | ((with_reducible apply wpList_build (v := valW kL)); (exact build107); rfl)
        | ((with_reducible apply wpL_storeC (vs := kL.map wrd) (x := .tmp 0) (sz := 64)); rfl; rfl; (exact S107); (exact HH.out); (exact .here); rfl; (exact wrd_one _); rfl; rfl; (intro w_ hq_; clear HH; have HH := hid hq_; clear hq_))
        | ((with_reducible apply wpL_move); rfl; rfl)
        | ((with_reducible apply wpL_assign); rfl; rfl)
        | ((with_reducible apply wpL_pick); rfl; rfl; rfl)
        | ((with_reducible apply wpL_not); rfl; rfl)
        | ((with_reducible apply wpL_cmp (b := true)); rfl; rfl; rfl; (first | rfl | assumption | (simp only [cmpB, decide_eq_true_eq, decide_eq_false_iff_not, beq_iff_eq, bne_iff_ne, ne_eq, beq_eq_false_iff_ne, bne_eq_false_iff_eq, gt_iff_lt, ge_iff_le]; omega) | (simp; omega)); rfl)
        | ((with_reducible apply wpL_cmp (b := false)); rfl; rfl; rfl; (first | rfl | assumption | (simp only [cmpB, decide_eq_true_eq, decide_eq_false_iff_not, beq_iff_eq, bne_iff_ne, ne_eq, beq_eq_false_iff_ne, bne_eq_false_iff_eq, gt_iff_lt, ge_iff_le]; omega) | (simp; omega)); rfl)
        | ((with_reducible apply wpL_cmp); rfl; rfl; rfl; rfl; rfl)
        | ((with_reducible apply wpL_arith); rfl; rfl; rfl; (exact IntWalk.i64_in _ (by (try simp only [arithI]); omega)); rfl)); (try simp only [arithI, Act.put, Act.eval, List.setIfInBounds_toArray, List.set_cons_succ, List.set_cons_zero, Array.getD_eq_getD_getElem?, List.getElem?_toArray, List.getElem?_cons_succ, List.getElem?_cons_zero, Option.getD_some])))
  refine bodyPost_ret (res1 rfl (resC A107 HH.out (by rfl) .here rfl)) rfl ?_
  exact ⟨rfl, HH.out.below⟩
section
variable {w0 : World} {S : List Nat} {bs : List (Nat × Obj)} {rows : List Row} {ops : Array Oper} {rest : List Oper} {a : Act} {dst : Option Tmp} {ty : TypeId} {pos : String} {after : Array Edge} {guard : Option (Nat × Bool)} {K : Act → Prop}
theorem wpQ_right {x y : Operand} {ats : Array TypeId} {p : W32} {n : Int} (hx : a.eval x = wrd p) (hy : a.eval y = .int .i64 n) (hn : rotN n)
    (hg : Region.wanted { dst := dst, op := .call { callee := .value (.func 89), args := #[x, y], argTypes := ats }, type := ty, pos := pos, after := after, guard := guard } (yielded ops a.tmps) = true)
    (h : wpQuiet Try.prog ops (fun w' => Holds w0 S bs rows w') K rest (a.put dst (wrd (rotr p n.toNat)))) :
    wpQuiet Try.prog ops (fun w' => Holds w0 S bs rows w') K ({ dst := dst, op := .call { callee := .value (.func 89), args := #[x, y], argTypes := ats }, type := ty, pos := pos, after := after, guard := guard } :: rest) a :=
  wpQ_call B89 (args := #[wrd p, .int .i64 n]) (by simp [hx, hy]) (fun w hw => (right_any w p n hn).mono fun e w' ⟨he, hb⟩ => ⟨he, hw.grow hb⟩) hg h
theorem B60 : Body Try.prog 60 := ⟨_, _, Try.func60, rfl, rfl⟩
theorem wpQ_rotate {x y : Operand} {ats : Array TypeId} {p : W32} {n : Int} (hx : a.eval x = wrd p) (hy : a.eval y = .int .i64 n) (hn : 0 < n ∧ n < 32)
    (hg : Region.wanted { dst := dst, op := .call { callee := .value (.func 60), args := #[x, y], argTypes := ats }, type := ty, pos := pos, after := after, guard := guard } (yielded ops a.tmps) = true)
    (h : wpQuiet Try.prog ops (fun w' => Holds w0 S bs rows w') K rest (a.put dst (wrd (rotr p n.toNat)))) :
    wpQuiet Try.prog ops (fun w' => Holds w0 S bs rows w') K ({ dst := dst, op := .call { callee := .value (.func 60), args := #[x, y], argTypes := ats }, type := ty, pos := pos, after := after, guard := guard } :: rest) a :=
  wpQ_call B60 (args := #[wrd p, .int .i64 n]) (by simp [hx, hy]) (fun w hw => (rotate_any w p n hn.1 hn.2).mono fun e w' ⟨he, hb⟩ => ⟨he, hw.grow hb⟩) hg h
end
set_option maxRecDepth 100000 in
set_option maxHeartbeats 2000000 in
theorem round_any (w : World) (s : St) (k x : W32) : Calls Try.prog 90 #[valW s.ws, wrd k, wrd x] w (RetL w (roundS s k x).ws) := by
  have HH := hid (Holds.init w)
  go_enter Try.func90, Try.ntmps90
  go_wp2_with (first
    | ((first
        | ((with_reducible apply wpL_skip); rfl; skip)
        | ((with_reducible apply wpL_boxC (cs := s.ws.map wrd) (x := .tmp 0)); rfl; (exact HH.out); rfl; (intro g_ w_ hq_; clear HH; have HH := hid hq_; clear hq_))
        | ((with_reducible apply wpL_allocC Z115 HH.out); rfl; (intro g_ w_ hq_; clear HH; have HH := hid hq_; clear hq_))
        | ((with_reducible apply wpL_move); rfl; rfl)
        | ((with_reducible apply wpL_assign); rfl; rfl)
        | ((with_reducible apply wpL_pick); rfl; rfl; rfl)
        | ((with_reducible apply wpL_not); rfl; rfl)
        | ((with_reducible apply wpL_cmp (b := true)); rfl; rfl; rfl; (first | rfl | assumption | (simp only [cmpB, decide_eq_true_eq, decide_eq_false_iff_not, beq_iff_eq, bne_iff_ne, ne_eq, beq_eq_false_iff_ne, bne_eq_false_iff_eq, gt_iff_lt, ge_iff_le]; omega) | (simp; omega)); rfl)
        | ((with_reducible apply wpL_cmp (b := false)); rfl; rfl; rfl; (first | rfl | assumption | (simp only [cmpB, decide_eq_true_eq, decide_eq_false_iff_not, beq_iff_eq, bne_iff_ne, ne_eq, beq_eq_false_iff_ne, bne_eq_false_iff_eq, gt_iff_lt, ge_iff_le]; omega) | (simp; omega)); rfl)
        | ((with_reducible apply wpL_cmp); rfl; rfl; rfl; rfl; rfl)
        | ((with_reducible apply wpL_arith); rfl; rfl; rfl; (exact IntWalk.i64_in _ (by (try simp only [arithI]); omega)); rfl)); (try simp only [arithI, Act.put, Act.eval, List.setIfInBounds_toArray, List.set_cons_succ, List.set_cons_zero, Array.getD_eq_getD_getElem?, List.getElem?_toArray, List.getElem?_cons_succ, List.getElem?_cons_zero, Option.getD_some])))
  refine wp_region_holds (by kernel_rfl) (by kernel_rfl) HH.out ?_
  repeat ((first
    | ((with_reducible apply wpQ_skip); rfl; skip)
    | ((with_reducible apply wpQ_fieldAddr (t := 115)); (exact F115 _ (by decide)); rfl; rfl)
    | ((with_reducible apply wpQ_load1 O105); rfl; (exact .there .here); rfl; rfl)
    | ((with_reducible apply wpQ_right); rfl; rfl; (unfold rotN; decide); rfl)
    | ((with_reducible apply wpQ_wop); rfl; rfl; rfl; rfl)
    | ((with_reducible apply wpQ_wnot); rfl; rfl)
    | ((with_reducible apply wpQ_move); rfl; rfl)
    | ((with_reducible apply wpQ_assign); rfl; rfl)
    | ((with_reducible apply wpQ_pick); rfl; rfl; rfl)
    | ((with_reducible apply wpQ_not); rfl; rfl)
    | ((with_reducible apply wpQ_cmp (b := true)); rfl; rfl; rfl; (first | rfl | assumption | (simp only [cmpB, decide_eq_true_eq, decide_eq_false_iff_not, beq_iff_eq, bne_iff_ne, ne_eq, beq_eq_false_iff_ne, bne_eq_false_iff_eq, gt_iff_lt, ge_iff_le]; omega) | (simp; omega)); rfl)
    | ((with_reducible apply wpQ_cmp (b := false)); rfl; rfl; rfl; (first | rfl | assumption | (simp only [cmpB, decide_eq_true_eq, decide_eq_false_iff_not, beq_iff_eq, bne_iff_ne, ne_eq, beq_eq_false_iff_ne, bne_eq_false_iff_eq, gt_iff_lt, ge_iff_le]; omega) | (simp; omega)); rfl)
    | ((with_reducible apply wpQ_cmp); rfl; rfl; rfl; rfl; rfl)
    | ((with_reducible apply wpQ_arith); rfl; rfl; rfl; (exact IntWalk.i64_in _ (by (try simp only [arithI]); omega)); rfl)); simp only [arithI, Act.put, Act.eval, List.setIfInBounds_toArray, List.set_cons_succ, List.set_cons_zero, Array.getD_eq_getD_getElem?, List.getElem?_toArray, List.getElem?_cons_succ, List.getElem?_cons_zero, Option.getD_some])
  refine wpQuiet_nil ?_
  intro wq hq_
  have HQ := hid hq_
  clear hq_
  go_wp2
  refine wp_region_holds (by kernel_rfl) (by kernel_rfl) HQ.out ?_
  repeat ((first
    | ((with_reducible apply wpQ_skip); rfl; skip)
    | ((with_reducible apply wpQ_fieldAddr (t := 115)); (exact F115 _ (by decide)); rfl; rfl)
    | ((with_reducible apply wpQ_load1 O105); rfl; (exact .there .here); rfl; rfl)
    | ((with_reducible apply wpQ_right); rfl; rfl; (unfold rotN; decide); rfl)
    | ((with_reducible apply wpQ_wop); rfl; rfl; rfl; rfl)
    | ((with_reducible apply wpQ_wnot); rfl; rfl)
    | ((with_reducible apply wpQ_move); rfl; rfl)
    | ((with_reducible apply wpQ_assign); rfl; rfl)
    | ((with_reducible apply wpQ_pick); rfl; rfl; rfl)
    | ((with_reducible apply wpQ_not); rfl; rfl)
    | ((with_reducible apply wpQ_cmp (b := true)); rfl; rfl; rfl; (first | rfl | assumption | (simp only [cmpB, decide_eq_true_eq, decide_eq_false_iff_not, beq_iff_eq, bne_iff_ne, ne_eq, beq_eq_false_iff_ne, bne_eq_false_iff_eq, gt_iff_lt, ge_iff_le]; omega) | (simp; omega)); rfl)
    | ((with_reducible apply wpQ_cmp (b := false)); rfl; rfl; rfl; (first | rfl | assumption | (simp only [cmpB, decide_eq_true_eq, decide_eq_false_iff_not, beq_iff_eq, bne_iff_ne, ne_eq, beq_eq_false_iff_ne, bne_eq_false_iff_eq, gt_iff_lt, ge_iff_le]; omega) | (simp; omega)); rfl)
    | ((with_reducible apply wpQ_cmp); rfl; rfl; rfl; rfl; rfl)
    | ((with_reducible apply wpQ_arith); rfl; rfl; rfl; (exact IntWalk.i64_in _ (by (try simp only [arithI]); omega)); rfl)); simp only [arithI, Act.put, Act.eval, List.setIfInBounds_toArray, List.set_cons_succ, List.set_cons_zero, Array.getD_eq_getD_getElem?, List.getElem?_toArray, List.getElem?_cons_succ, List.getElem?_cons_zero, Option.getD_some])
  refine wpQuiet_nil ?_
  intro wq hq_
  have HR := hid hq_
  clear hq_
  clear HH HQ
  have HH := HR
  clear HR
  go_wp2_with (first
    | ((first
        | ((with_reducible apply wpL_skip); rfl; skip)
        | ((with_reducible apply wpL_fieldAddr (t := 115)); (exact F115 _ (by decide)); rfl; rfl)
        | ((with_reducible apply wpL_load1 O105 HH.out); rfl; (exact .there .here); rfl; rfl)
        | ((with_reducible apply wpL_wop); rfl; rfl; rfl; rfl)
        | ((with_reducible apply wpList_build (v := valW (roundS s k x).ws)); (exact build115 (roundS s k x)); rfl)
        | ((with_reducible apply wpL_storeC (vs := (roundS s k x).ws.map wrd) (x := .tmp 6) (sz := 8)); rfl; rfl; (exact S115); (exact HH.out); (exact .here); rfl; (exact wrd_one _); rfl; rfl; (intro w_ hq_; clear HH; have HH := hid hq_; clear hq_))
        | ((with_reducible apply wpL_move); rfl; rfl)
        | ((with_reducible apply wpL_assign); rfl; rfl)
        | ((with_reducible apply wpL_pick); rfl; rfl; rfl)
        | ((with_reducible apply wpL_not); rfl; rfl)
        | ((with_reducible apply wpL_cmp (b := true)); rfl; rfl; rfl; (first | rfl | assumption | (simp only [cmpB, decide_eq_true_eq, decide_eq_false_iff_not, beq_iff_eq, bne_iff_ne, ne_eq, beq_eq_false_iff_ne, bne_eq_false_iff_eq, gt_iff_lt, ge_iff_le]; omega) | (simp; omega)); rfl)
        | ((with_reducible apply wpL_cmp (b := false)); rfl; rfl; rfl; (first | rfl | assumption | (simp only [cmpB, decide_eq_true_eq, decide_eq_false_iff_not, beq_iff_eq, bne_iff_ne, ne_eq, beq_eq_false_iff_ne, bne_eq_false_iff_eq, gt_iff_lt, ge_iff_le]; omega) | (simp; omega)); rfl)
        | ((with_reducible apply wpL_cmp); rfl; rfl; rfl; rfl; rfl)
        | ((with_reducible apply wpL_arith); rfl; rfl; rfl; (exact IntWalk.i64_in _ (by (try simp only [arithI]); omega)); rfl)); (try simp only [arithI, Act.put, Act.eval, List.setIfInBounds_toArray, List.set_cons_succ, List.set_cons_zero, Array.getD_eq_getD_getElem?, List.getElem?_toArray, List.getElem?_cons_succ, List.getElem?_cons_zero, Option.getD_some])))
  refine bodyPost_ret (res1 rfl (resC A115 HH.out (by rfl) .here rfl)) rfl ?_
  exact ⟨rfl, HH.out.below⟩
end Go.Proofs.Ytgkfopodhikckaa

/- process of sha256: one block. No condition. -/
namespace Go.Proofs.Ytgkfopodhikckaa
open Go.RowKit
def sg0 (x : W32) : W32 := rotr x 7 ^^^ rotr x 18 ^^^ x >>> 3
def sg1 (y : W32) : W32 := rotr y 17 ^^^ rotr y 19 ^^^ y >>> 10
/-- The window after step t. -/
def winUp (l : List W32) (t : Nat) : List W32 :=
  if t < 16 then l else l.set (t % 16) (l.getD (t % 16) 0 + (sg1 (l.getD ((t - 2) % 16) 0) + l.getD ((t - 7) % 16) 0 + sg0 (l.getD ((t - 15) % 16) 0)))
def procN (s : St) (l : List W32) : Nat → St × List W32
  | 0 => (s, l)
  | t + 1 => (roundS (procN s l t).1 (kL.getD t 0) ((winUp (procN s l t).2 t).getD (t % 16) 0), winUp (procN s l t).2 t)
def processS (s : St) (l : List W32) : St := plusS (procN s l 64).1 s
theorem winUp_len (l : List W32) (t : Nat) : (winUp l t).length = l.length := by
  unfold winUp; split <;> simp
theorem procN_len (s : St) (l : List W32) (t : Nat) : (procN s l t).2.length = l.length := by
  induction t with
  | zero => rfl
  | succ t ih => rw [procN, winUp_len, ih]
theorem wget {l : List W32} {m : Nat} (h : m < l.length) : (l.map wrd)[0 + m]? = some (wrd (l.getD m 0)) := by
  rw [Nat.zero_add]; simp [h]
theorem wget0 {l : List W32} {m : Nat} (h : m < l.length) : ((l.map wrd).toArray)[m]? = some (wrd (l.getD m 0)) := by
  simp [h]
theorem run_remN {P : Program} (t : TypeId) (m n : Nat) (hn : 0 < n) (hn2 : n < 1000) (hm : m < 9223372036854775807) (w : World) : (binOp .rem t (.int .i64 (m : Int)) (.int .i64 (n : Int))).run P w = .ok (.int .i64 ((m % n : Nat) : Int)) w := by
  show (Op.intDiv .rem .i64 (m : Int) (n : Int)).run P w = _
  have h0 : ¬ (n : Int) = 0 := by omega
  have h1 : ((m : Int).tmod (n : Int)) = ((m % n : Nat) : Int) := by rw [IntWalk.rem_in _ _ (by omega)]; norm_cast
  simp only [Op.intDiv, h0, if_false, Sem.run_pure, h1]
section
variable {w0 : World} {S : List Nat} {bs : List (Nat × Obj)} {rows : List Row} {ops : Array Oper} {rest : List Oper} {a : Act} {dst : Option Tmp} {ty : TypeId} {pos : String} {after : Array Edge} {guard : Option (Nat × Bool)} {K : Act → Prop} {P : Program} {C : World → Prop}
theorem wpQ_remN {t yt : TypeId} {x y : Operand} {p q : Int} {m n : Nat} (hx : a.eval x = .int .i64 p) (hy : a.eval y = .int .i64 q) (hp : p = (m : Int)) (hq : q = (n : Int)) (hn : 0 < n) (hn2 : n < 1000) (hm : m < 9223372036854775807)
    (hg : Region.wanted { dst := dst, op := .binOp .rem t x y yt, type := ty, pos := pos, after := after, guard := guard } (yielded ops a.tmps) = true)
    (h : wpQuiet P ops C K rest (a.put dst (.int .i64 ((m % n : Nat) : Int)))) : wpQuiet P ops C K ({ dst := dst, op := .binOp .rem t x y yt, type := ty, pos := pos, after := after, guard := guard } :: rest) a := by
  subst hp hq
  refine wpQuiet_ex hg (fun w _ => ?_) h
  have he : ∀ u v, eqGuard .rem t x y u v = pure () := fun _ _ => rfl
  simp only [execOp, hx, hy, Sem.run_bind, he, Sem.run_pure, Result.andThen_ok, run_remN t m n hn hn2 hm]
theorem wpL_remN {t yt : TypeId} {x y : Operand} {p q : Int} {m n : Nat} {w : World} {Q : Exit → Act → World → Prop} (hx : a.eval x = .int .i64 p) (hy : a.eval y = .int .i64 q) (hp : p = (m : Int)) (hq : q = (n : Int)) (hn : 0 < n) (hn2 : n < 1000) (hm : m < 9223372036854775807)
    (hg : Region.wanted { dst := dst, op := .binOp .rem t x y yt, type := ty, pos := pos, after := after, guard := guard } (yielded ops a.tmps) = true)
    (h : wpList P ops Q rest (a.put dst (.int .i64 ((m % n : Nat) : Int))) w) : wpList P ops Q ({ dst := dst, op := .binOp .rem t x y yt, type := ty, pos := pos, after := after, guard := guard } :: rest) a w := by
  subst hp hq
  refine wpList_ex hg ?_ h
  have he : ∀ u v, eqGuard .rem t x y u v = pure () := fun _ _ => rfl
  simp only [execOp, hx, hy, Sem.run_bind, he, Sem.run_pure, Result.andThen_ok, run_remN t m n hn hn2 hm]
theorem B90 : Body Try.prog 90 := ⟨_, _, Try.func90, rfl, rfl⟩
theorem wpQ_round {x y z : Operand} {ats : Array TypeId} {s : St} {p q : W32} (hx : a.eval x = valW s.ws) (hy : a.eval y = wrd p) (hz : a.eval z = wrd q)
    (hg : Region.wanted { dst := dst, op := .call { callee := .value (.func 90), args := #[x, y, z], argTypes := ats }, type := ty, pos := pos, after := after, guard := guard } (yielded ops a.tmps) = true)
    (h : wpQuiet Try.prog ops (fun w' => Holds w0 S bs rows w') K rest (a.put dst (valW (roundS s p q).ws))) :
    wpQuiet Try.prog ops (fun w' => Holds w0 S bs rows w') K ({ dst := dst, op := .call { callee := .value (.func 90), args := #[x, y, z], argTypes := ats }, type := ty, pos := pos, after := after, guard := guard } :: rest) a :=
  wpQ_call B90 (args := #[valW s.ws, wrd p, wrd q]) (by simp [hx, hy, hz]) (fun w hw => (round_any w s p q).mono fun e w' ⟨he, hb⟩ => ⟨he, hw.grow hb⟩) hg h
end
/-- One word of an array variable is written. -/
theorem wpL_storeW {w w0 : World} {S : List Nat} {bs bs' : List (Nat × Obj)} {rows : List Row} {ops : Array Oper} {rest : List Oper} {a : Act} {Q : Exit → Act → World → Prop} {dst : Option Tmp} {ty : TypeId} {pos : String} {after : Array Edge} {guard : Option (Nat × Bool)} {P : Program}
    {t : TypeId} {x y : Operand} {g m : Nat} {l : List W32} {v : W32} {e : TypeId}
    (hx : a.eval x = .pointer (some ⟨g, 0 + m, none⟩)) (hy : a.eval y = wrd v) (hi : (P.info? t).map (·.size) = some 1)
    (hH : Holds w0 S bs rows w) (ht : Turn bs g (objC (l.map wrd) e) (objC ((l.set m v).map wrd) e) bs') (hc : m < l.length)
    (hg : Region.wanted { dst := dst, op := .store t x y, type := ty, pos := pos, after := after, guard := guard } (yielded ops a.tmps) = true)
    (h : ∀ w', Holds w0 S bs' rows w' → wpList P ops Q rest (a.put dst undef) w') :
    wpList P ops Q ({ dst := dst, op := .store t x y, type := ty, pos := pos, after := after, guard := guard } :: rest) a w := by
  rw [Nat.zero_add] at hx
  rw [List.map_set] at ht
  exact wpL_store1 hx hy rfl hi hH ht rfl (by simpa using hc) hg h
theorem A138 : AggT Try.prog 138 16 := ⟨_, Try.underlying138, rfl, by kernel_rfl⟩
def z8 : List Value := (List.replicate 8 (0 : W32)).map wrd
theorem Z115' : (Try.prog.info? 115).map (·.zero) = some (some (.agg z8.toArray)) := Z115
def ProcRel (w : World) (s : St) (l : List W32) (g2 g3 g4 g5 : Nat) (i : Value) (wr : World) : Prop :=
  ∃ t : Nat, t ≤ 64 ∧ i = .int .i64 t ∧ Holds w [] [(g5, objC ((procN s l t).1.ws.map wrd) 115), (g4, objC z8 115), (g3, objC ((procN s l t).2.map wrd) 138), (g2, objC (s.ws.map wrd) 115)] [] wr
set_option maxRecDepth 100000 in
set_option maxHeartbeats 2000000 in
theorem process_any (w : World) (s : St) (l : List W32) (hl : l.length = 16) : Calls Try.prog 79 #[valW s.ws, valW l] w (RetL w (processS s l).ws) := by
  have HH := hid (Holds.init w)
  go_enter Try.func79, Try.ntmps79
  go_wp2_with (first
    | ((first
        | ((with_reducible apply wpL_skip); rfl; skip)
        | ((with_reducible apply wpL_boxC (cs := s.ws.map wrd) (x := .tmp 0)); rfl; (exact HH.out); rfl; (intro g2 w_ hq_; clear HH; have HH := hid hq_; clear hq_))
        | ((with_reducible apply wpL_boxC (cs := l.map wrd) (x := .tmp 1)); rfl; (exact HH.out); rfl; (intro g3 w_ hq_; clear HH; have HH := hid hq_; clear hq_))
        | ((with_reducible apply wpL_allocC (dst := some 4) Z115' HH.out); rfl; (intro g4 w_ hq_; clear HH; have HH := hid hq_; clear hq_))
        | ((with_reducible apply wpL_allocC (dst := some 5) Z115' HH.out); rfl; (intro g5 w_ hq_; clear HH; have HH := hid hq_; clear hq_))
        | ((with_reducible apply wpL_loadC (x := .tmp 2) A115 HH.out); rfl; (exact .there (.there .here)); rfl; rfl)
        | ((with_reducible apply wpL_storeC (vs := s.ws.map wrd) (x := .tmp 5) (sz := 8)); rfl; rfl; (exact S115); (exact HH.out); (exact .here); rfl; (exact wrd_one _); rfl; rfl; (intro w_ hq_; clear HH; have HH := hid hq_; clear hq_))
        | (go_at_call 88; refine (constants_any _).mono ?_; rintro e w2 ⟨rfl, hb⟩; (have hq_ := HH.out.grow hb); clear HH; have HH := hid hq_; clear hq_ hb)
        | ((with_reducible apply wpL_move); rfl; rfl)
        | ((with_reducible apply wpL_assign); rfl; rfl)
        | ((with_reducible apply wpL_pick); rfl; rfl; rfl)
        | ((with_reducible apply wpL_not); rfl; rfl)
        | ((with_reducible apply wpL_cmp (b := true)); rfl; rfl; rfl; (first | rfl | assumption | (simp only [cmpB, decide_eq_true_eq, decide_eq_false_iff_not, beq_iff_eq, bne_iff_ne, ne_eq, beq_eq_false_iff_ne, bne_eq_false_iff_eq, gt_iff_lt, ge_iff_le]; omega) | (simp; omega)); rfl)
        | ((with_reducible apply wpL_cmp (b := false)); rfl; rfl; rfl; (first | rfl | assumption | (simp only [cmpB, decide_eq_true_eq, decide_eq_false_iff_not, beq_iff_eq, bne_iff_ne, ne_eq, beq_eq_false_iff_ne, bne_eq_false_iff_eq, gt_iff_lt, ge_iff_le]; omega) | (simp; omega)); rfl)
        | ((with_reducible apply wpL_cmp); rfl; rfl; rfl; rfl; rfl)
        | ((with_reducible apply wpL_arith); rfl; rfl; rfl; (exact IntWalk.i64_in _ (by (try simp only [arithI]); omega)); rfl)); (try simp only [arithI, Act.put, Act.eval, List.setIfInBounds_toArray, List.set_cons_succ, List.set_cons_zero, Array.getD_eq_getD_getElem?, List.getElem?_toArray, List.getElem?_cons_succ, List.getElem?_cons_zero, Option.getD_some])))
  go_loopw [13] (ProcRel w s l g2 g3 g4 g5) (fun i _ => 64 - (intOf i).toNat)
  case atStart => exact ⟨0, Nat.zero_le _, rfl, HH.out⟩
  case round =>
    obtain ⟨t, ht, rfl, hr⟩ := hrel
    clear HH
    have HH := hid hr
    clear hr
    by_cases hlt : t < 64
    · have hpl : (procN s l t).2.length = 16 := by rw [procN_len]; exact hl
      have hm16 : t % 16 < 16 := Nat.mod_lt _ (by omega)
      have em : ((t : Int) % 16) = ((t % 16 : Nat) : Int) := by omega
      have hk : kL.length = 64 := rfl
      by_cases h16 : t < 16
      · have hup : winUp (procN s l t).2 t = (procN s l t).2 := by unfold winUp; rw [if_pos h16]
        have HU := hid hup
        clear hup
        go_wp2_with (first
          | ((first
              | ((with_reducible apply wpL_skip); rfl; skip)
              | ((with_reducible apply wpL_indexV (m := t) (v := wrd (kL.getD t 0)) Try.underlying107 Try.underlying105 rfl S105); rfl; rfl; rfl; (exact hlt); (exact wget0 (by omega)); rfl)
              | ((with_reducible apply wpL_move); rfl; rfl)
              | ((with_reducible apply wpL_assign); rfl; rfl)
              | ((with_reducible apply wpL_pick); rfl; rfl; rfl)
              | ((with_reducible apply wpL_not); rfl; rfl)
              | ((with_reducible apply wpL_cmp (b := true)); rfl; rfl; rfl; (first | rfl | assumption | (simp only [cmpB, decide_eq_true_eq, decide_eq_false_iff_not, beq_iff_eq, bne_iff_ne, ne_eq, beq_eq_false_iff_ne, bne_eq_false_iff_eq, gt_iff_lt, ge_iff_le]; omega) | (simp; omega)); rfl)
              | ((with_reducible apply wpL_cmp (b := false)); rfl; rfl; rfl; (first | rfl | assumption | (simp only [cmpB, decide_eq_true_eq, decide_eq_false_iff_not, beq_iff_eq, bne_iff_ne, ne_eq, beq_eq_false_iff_ne, bne_eq_false_iff_eq, gt_iff_lt, ge_iff_le]; omega) | (simp; omega)); rfl)
              | ((with_reducible apply wpL_cmp); rfl; rfl; rfl; rfl; rfl)
              | ((with_reducible apply wpL_arith); rfl; rfl; rfl; (exact IntWalk.i64_in _ (by (try simp only [arithI]); omega)); rfl)); (try simp only [arithI, Act.put, Act.eval, List.setIfInBounds_toArray, List.set_cons_succ, List.set_cons_zero, Array.getD_eq_getD_getElem?, List.getElem?_toArray, List.getElem?_cons_succ, List.getElem?_cons_zero, Option.getD_some])))
        refine wp_region_tailQ 6 (by kernel_rfl) (by kernel_rfl) (by kernel_rfl) HH.out ?_
        simp only [List.take_succ_cons, List.take_zero, List.drop_succ_cons, List.drop_zero]
        repeat ((first
          | ((with_reducible apply wpQ_skip); rfl; skip)
          | ((with_reducible apply wpQ_loadC (x := .tmp 5) A115); rfl; (exact .here); rfl; rfl)
          | ((with_reducible apply wpQ_indexVar (m := t % 16) Try.underlying138 S105); rfl; rfl; (first | rfl | exact em); (exact hm16); rfl)
          | ((with_reducible apply wpQ_load1 (v := wrd ((procN s l t).2.getD (t % 16) 0)) O105); rfl; (exact .there (.there .here)); (exact wget (by omega)); rfl)
          | ((with_reducible apply wpQ_round (s := (procN s l t).1)); rfl; rfl; rfl; rfl)
          | ((with_reducible apply wpQ_move); rfl; rfl)
          | ((with_reducible apply wpQ_assign); rfl; rfl)
          | ((with_reducible apply wpQ_pick); rfl; rfl; rfl)
          | ((with_reducible apply wpQ_not); rfl; rfl)
          | ((with_reducible apply wpQ_cmp (b := true)); rfl; rfl; rfl; (first | rfl | assumption | (simp only [cmpB, decide_eq_true_eq, decide_eq_false_iff_not, beq_iff_eq, bne_iff_ne, ne_eq, beq_eq_false_iff_ne, bne_eq_false_iff_eq, gt_iff_lt, ge_iff_le]; omega) | (simp; omega)); rfl)
          | ((with_reducible apply wpQ_cmp (b := false)); rfl; rfl; rfl; (first | rfl | assumption | (simp only [cmpB, decide_eq_true_eq, decide_eq_false_iff_not, beq_iff_eq, bne_iff_ne, ne_eq, beq_eq_false_iff_ne, bne_eq_false_iff_eq, gt_iff_lt, ge_iff_le]; omega) | (simp; omega)); rfl)
          | ((with_reducible apply wpQ_cmp); rfl; rfl; rfl; rfl; rfl)
          | ((with_reducible apply wpQ_arith); rfl; rfl; rfl; (exact IntWalk.i64_in _ (by (try simp only [arithI]); omega)); rfl)); simp only [arithI, Act.put, Act.eval, List.setIfInBounds_toArray, List.set_cons_succ, List.set_cons_zero, Array.getD_eq_getD_getElem?, List.getElem?_toArray, List.getElem?_cons_succ, List.getElem?_cons_zero, Option.getD_some])
        refine wpQuiet_nil ?_
        intro wq hq_
        have HQ := hid hq_
        clear hq_
        clear HH
        have HH := HQ
        clear HQ
        go_wp2_with (first
          | ((first
              | ((with_reducible apply wpL_skip); rfl; skip)
              | ((with_reducible apply wpL_storeC (vs := (roundS (procN s l t).1 (kL.getD t 0) ((procN s l t).2.getD (t % 16) 0)).ws.map wrd) (x := .tmp 5) (sz := 8)); rfl; rfl; (exact S115); (exact HH.out); (exact .here); rfl; (exact wrd_one _); rfl; rfl; (intro w_ hq_; clear HH; have HH := hid hq_; clear hq_))
              | ((with_reducible apply wpL_move); rfl; rfl)
              | ((with_reducible apply wpL_assign); rfl; rfl)
              | ((with_reducible apply wpL_pick); rfl; rfl; rfl)
              | ((with_reducible apply wpL_not); rfl; rfl)
              | ((with_reducible apply wpL_cmp (b := true)); rfl; rfl; rfl; (first | rfl | assumption | (simp only [cmpB, decide_eq_true_eq, decide_eq_false_iff_not, beq_iff_eq, bne_iff_ne, ne_eq, beq_eq_false_iff_ne, bne_eq_false_iff_eq, gt_iff_lt, ge_iff_le]; omega) | (simp; omega)); rfl)
              | ((with_reducible apply wpL_cmp (b := false)); rfl; rfl; rfl; (first | rfl | assumption | (simp only [cmpB, decide_eq_true_eq, decide_eq_false_iff_not, beq_iff_eq, bne_iff_ne, ne_eq, beq_eq_false_iff_ne, bne_eq_false_iff_eq, gt_iff_lt, ge_iff_le]; omega) | (simp; omega)); rfl)
              | ((with_reducible apply wpL_cmp); rfl; rfl; rfl; rfl; rfl)
              | ((with_reducible apply wpL_arith); rfl; rfl; rfl; (exact IntWalk.i64_in _ (by (try simp only [arithI]); omega)); rfl)); (try simp only [arithI, Act.put, Act.eval, List.setIfInBounds_toArray, List.set_cons_succ, List.set_cons_zero, Array.getD_eq_getD_getElem?, List.getElem?_toArray, List.getElem?_cons_succ, List.getElem?_cons_zero, Option.getD_some])))
        go_roundw
        case rel => exact ⟨t + 1, by omega, by go_num, by rw [procN, HU.out]; exact HH.out⟩
        case measure => simp [intOf]; omega
      · have hup : winUp (procN s l t).2 t = (procN s l t).2.set (t % 16) ((procN s l t).2.getD (t % 16) 0 + (sg1 ((procN s l t).2.getD ((t - 2) % 16) 0) + (procN s l t).2.getD ((t - 7) % 16) 0 + sg0 ((procN s l t).2.getD ((t - 15) % 16) 0))) := by unfold winUp; rw [if_neg h16]
        have HU := hid hup
        clear hup
        have h15 : (t - 15) % 16 < 16 := Nat.mod_lt _ (by omega)
        have h2 : (t - 2) % 16 < 16 := Nat.mod_lt _ (by omega)
        have h7 : (t - 7) % 16 < 16 := Nat.mod_lt _ (by omega)
        go_wp2_with (first
          | ((first
              | ((with_reducible apply wpL_skip); rfl; skip)
              | ((with_reducible apply wpL_indexV (m := t) (v := wrd (kL.getD t 0)) Try.underlying107 Try.underlying105 rfl S105); rfl; rfl; rfl; (exact hlt); (exact wget0 (by omega)); rfl)
              | ((with_reducible apply wpL_move); rfl; rfl)
              | ((with_reducible apply wpL_assign); rfl; rfl)
              | ((with_reducible apply wpL_pick); rfl; rfl; rfl)
              | ((with_reducible apply wpL_not); rfl; rfl)
              | ((with_reducible apply wpL_cmp (b := true)); rfl; rfl; rfl; (first | rfl | assumption | (simp only [cmpB, decide_eq_true_eq, decide_eq_false_iff_not, beq_iff_eq, bne_iff_ne, ne_eq, beq_eq_false_iff_ne, bne_eq_false_iff_eq, gt_iff_lt, ge_iff_le]; omega) | (simp; omega)); rfl)
              | ((with_reducible apply wpL_cmp (b := false)); rfl; rfl; rfl; (first | rfl | assumption | (simp only [cmpB, decide_eq_true_eq, decide_eq_false_iff_not, beq_iff_eq, bne_iff_ne, ne_eq, beq_eq_false_iff_ne, bne_eq_false_iff_eq, gt_iff_lt, ge_iff_le]; omega) | (simp; omega)); rfl)
              | ((with_reducible apply wpL_cmp); rfl; rfl; rfl; rfl; rfl)
              | ((with_reducible apply wpL_arith); rfl; rfl; rfl; (exact IntWalk.i64_in _ (by (try simp only [arithI]); omega)); rfl)); (try simp only [arithI, Act.put, Act.eval, List.setIfInBounds_toArray, List.set_cons_succ, List.set_cons_zero, Array.getD_eq_getD_getElem?, List.getElem?_toArray, List.getElem?_cons_succ, List.getElem?_cons_zero, Option.getD_some])))
        refine wp_region_holds (by kernel_rfl) (by kernel_rfl) HH.out ?_
        repeat ((first
          | ((with_reducible apply wpQ_skip); rfl; skip)
          | ((with_reducible apply wpQ_remN (x := .tmp 22) (m := t - 15) (n := 16)); rfl; rfl; (exact (by omega)); rfl; (exact (by omega)); (exact (by omega)); (exact (by omega)); rfl)
          | ((with_reducible apply wpQ_remN (x := .tmp 27) (m := t - 2) (n := 16)); rfl; rfl; (exact (by omega)); rfl; (exact (by omega)); (exact (by omega)); (exact (by omega)); rfl)
          | ((with_reducible apply wpQ_indexVar (i := .tmp 23) (m := (t - 15) % 16) Try.underlying138 S105); rfl; rfl; rfl; (exact h15); rfl)
          | ((with_reducible apply wpQ_indexVar (i := .tmp 28) (m := (t - 2) % 16) Try.underlying138 S105); rfl; rfl; rfl; (exact h2); rfl)
          | ((with_reducible apply wpQ_load1 (x := .tmp 24) (v := wrd ((procN s l t).2.getD ((t - 15) % 16) 0)) O105); rfl; (exact .there (.there .here)); (exact wget (by omega)); rfl)
          | ((with_reducible apply wpQ_load1 (x := .tmp 29) (v := wrd ((procN s l t).2.getD ((t - 2) % 16) 0)) O105); rfl; (exact .there (.there .here)); (exact wget (by omega)); rfl)
          | ((with_reducible apply wpQ_move); rfl; rfl)
          | ((with_reducible apply wpQ_assign); rfl; rfl)
          | ((with_reducible apply wpQ_pick); rfl; rfl; rfl)
          | ((with_reducible apply wpQ_not); rfl; rfl)
          | ((with_reducible apply wpQ_cmp (b := true)); rfl; rfl; rfl; (first | rfl | assumption | (simp only [cmpB, decide_eq_true_eq, decide_eq_false_iff_not, beq_iff_eq, bne_iff_ne, ne_eq, beq_eq_false_iff_ne, bne_eq_false_iff_eq, gt_iff_lt, ge_iff_le]; omega) | (simp; omega)); rfl)
          | ((with_reducible apply wpQ_cmp (b := false)); rfl; rfl; rfl; (first | rfl | assumption | (simp only [cmpB, decide_eq_true_eq, decide_eq_false_iff_not, beq_iff_eq, bne_iff_ne, ne_eq, beq_eq_false_iff_ne, bne_eq_false_iff_eq, gt_iff_lt, ge_iff_le]; omega) | (simp; omega)); rfl)
          | ((with_reducible apply wpQ_cmp); rfl; rfl; rfl; rfl; rfl)
          | ((with_reducible apply wpQ_arith); rfl; rfl; rfl; (exact IntWalk.i64_in _ (by (try simp only [arithI]); omega)); rfl)); simp only [arithI, Act.put, Act.eval, List.setIfInBounds_toArray, List.set_cons_succ, List.set_cons_zero, Array.getD_eq_getD_getElem?, List.getElem?_toArray, List.getElem?_cons_succ, List.getElem?_cons_zero, Option.getD_some])
        refine wpQuiet_nil ?_
        intro wq hq_
        have HQ := hid hq_
        clear hq_
        clear HH
        have HH := HQ
        clear HQ
        go_wp2
        refine wp_region_tailQ 28 (by kernel_rfl) (by kernel_rfl) (by kernel_rfl) HH.out ?_
        simp only [List.take_succ_cons, List.take_zero, List.drop_succ_cons, List.drop_zero]
        repeat ((first
          | ((with_reducible apply wpQ_skip); rfl; skip)
          | ((with_reducible apply wpQ_remN (x := .tmp 43) (m := t - 7) (n := 16)); rfl; rfl; (exact (by omega)); rfl; (exact (by omega)); (exact (by omega)); (exact (by omega)); rfl)
          | ((with_reducible apply wpQ_indexVar (i := .tmp 31) (m := t % 16) Try.underlying138 S105); rfl; rfl; (first | rfl | exact em); (exact hm16); rfl)
          | ((with_reducible apply wpQ_indexVar (i := .tmp 44) (m := (t - 7) % 16) Try.underlying138 S105); rfl; rfl; rfl; (exact h7); rfl)
          | ((with_reducible apply wpQ_load1 (x := .tmp 32) (v := wrd ((procN s l t).2.getD (t % 16) 0)) O105); rfl; (exact .there (.there .here)); (exact wget (by omega)); rfl)
          | ((with_reducible apply wpQ_load1 (x := .tmp 45) (v := wrd ((procN s l t).2.getD ((t - 7) % 16) 0)) O105); rfl; (exact .there (.there .here)); (exact wget (by omega)); rfl)
          | ((with_reducible apply wpQ_right); rfl; rfl; (unfold rotN; decide); rfl)
          | ((with_reducible apply wpQ_wop); rfl; rfl; rfl; rfl)
          | ((with_reducible apply wpQ_wshr); rfl; rfl; (exact (by decide)); rfl)
          | ((with_reducible apply wpQ_move); rfl; rfl)
          | ((with_reducible apply wpQ_assign); rfl; rfl)
          | ((with_reducible apply wpQ_pick); rfl; rfl; rfl)
          | ((with_reducible apply wpQ_not); rfl; rfl)
          | ((with_reducible apply wpQ_cmp (b := true)); rfl; rfl; rfl; (first | rfl | assumption | (simp only [cmpB, decide_eq_true_eq, decide_eq_false_iff_not, beq_iff_eq, bne_iff_ne, ne_eq, beq_eq_false_iff_ne, bne_eq_false_iff_eq, gt_iff_lt, ge_iff_le]; omega) | (simp; omega)); rfl)
          | ((with_reducible apply wpQ_cmp (b := false)); rfl; rfl; rfl; (first | rfl | assumption | (simp only [cmpB, decide_eq_true_eq, decide_eq_false_iff_not, beq_iff_eq, bne_iff_ne, ne_eq, beq_eq_false_iff_ne, bne_eq_false_iff_eq, gt_iff_lt, ge_iff_le]; omega) | (simp; omega)); rfl)
          | ((with_reducible apply wpQ_cmp); rfl; rfl; rfl; rfl; rfl)
          | ((with_reducible apply wpQ_arith); rfl; rfl; rfl; (exact IntWalk.i64_in _ (by (try simp only [arithI]); omega)); rfl)); simp only [arithI, Act.put, Act.eval, List.setIfInBounds_toArray, List.set_cons_succ, List.set_cons_zero, Array.getD_eq_getD_getElem?, List.getElem?_toArray, List.getElem?_cons_succ, List.getElem?_cons_zero, Option.getD_some])
        refine wpQuiet_nil ?_
        intro wq hq_
        have HQ := hid hq_
        clear hq_
        clear HH
        have HH := HQ
        clear HQ
        go_wp2_with (first
          | ((first
              | ((with_reducible apply wpL_skip); rfl; skip)
              | ((with_reducible apply wpL_storeW (l := (procN s l t).2) (m := t % 16) (v := (procN s l t).2.getD (t % 16) 0 + (sg1 ((procN s l t).2.getD ((t - 2) % 16) 0) + (procN s l t).2.getD ((t - 7) % 16) 0 + sg0 ((procN s l t).2.getD ((t - 15) % 16) 0)))); rfl; rfl; (exact S105); (exact HH.out); (exact .there (.there .here)); (exact (by omega)); rfl; (intro w_ hq_; (have hq2_ : Holds w [] [(g5, objC ((procN s l t).1.ws.map wrd) 115), (g4, objC z8 115), (g3, objC ((winUp (procN s l t).2 t).map wrd) 138), (g2, objC (s.ws.map wrd) 115)] [] w_ := by rw [HU.out]; exact hq_); clear HH hq_; have HH := hid hq2_; clear hq2_))
              | ((with_reducible apply wpL_move); rfl; rfl)
              | ((with_reducible apply wpL_assign); rfl; rfl)
              | ((with_reducible apply wpL_pick); rfl; rfl; rfl)
              | ((with_reducible apply wpL_not); rfl; rfl)
              | ((with_reducible apply wpL_cmp (b := true)); rfl; rfl; rfl; (first | rfl | assumption | (simp only [cmpB, decide_eq_true_eq, decide_eq_false_iff_not, beq_iff_eq, bne_iff_ne, ne_eq, beq_eq_false_iff_ne, bne_eq_false_iff_eq, gt_iff_lt, ge_iff_le]; omega) | (simp; omega)); rfl)
              | ((with_reducible apply wpL_cmp (b := false)); rfl; rfl; rfl; (first | rfl | assumption | (simp only [cmpB, decide_eq_true_eq, decide_eq_false_iff_not, beq_iff_eq, bne_iff_ne, ne_eq, beq_eq_false_iff_ne, bne_eq_false_iff_eq, gt_iff_lt, ge_iff_le]; omega) | (simp; omega)); rfl)
              | ((with_reducible apply wpL_cmp); rfl; rfl; rfl; rfl; rfl)
              | ((with_reducible apply wpL_arith); rfl; rfl; rfl; (exact IntWalk.i64_in _ (by (try simp only [arithI]); omega)); rfl)); (try simp only [arithI, Act.put, Act.eval, List.setIfInBounds_toArray, List.set_cons_succ, List.set_cons_zero, Array.getD_eq_getD_getElem?, List.getElem?_toArray, List.getElem?_cons_succ, List.getElem?_cons_zero, Option.getD_some])))
        have hwl : (winUp (procN s l t).2 t).length = 16 := by rw [winUp_len]; exact hpl
        refine wp_region_tailQ 6 (by kernel_rfl) (by kernel_rfl) (by kernel_rfl) HH.out ?_
        simp only [List.take_succ_cons, List.take_zero, List.drop_succ_cons, List.drop_zero]
        repeat ((first
          | ((with_reducible apply wpQ_skip); rfl; skip)
          | ((with_reducible apply wpQ_loadC (x := .tmp 5) A115); rfl; (exact .here); rfl; rfl)
          | ((with_reducible apply wpQ_indexVar (m := t % 16) Try.underlying138 S105); rfl; rfl; (first | rfl | exact em); (exact hm16); rfl)
          | ((with_reducible apply wpQ_load1 (v := wrd ((winUp (procN s l t).2 t).getD (t % 16) 0)) O105); rfl; (exact .there (.there .here)); (exact wget (by omega)); rfl)
          | ((with_reducible apply wpQ_round (s := (procN s l t).1)); rfl; rfl; rfl; rfl)
          | ((with_reducible apply wpQ_move); rfl; rfl)
          | ((with_reducible apply wpQ_assign); rfl; rfl)
          | ((with_reducible apply wpQ_pick); rfl; rfl; rfl)
          | ((with_reducible apply wpQ_not); rfl; rfl)
          | ((with_reducible apply wpQ_cmp (b := true)); rfl; rfl; rfl; (first | rfl | assumption | (simp only [cmpB, decide_eq_true_eq, decide_eq_false_iff_not, beq_iff_eq, bne_iff_ne, ne_eq, beq_eq_false_iff_ne, bne_eq_false_iff_eq, gt_iff_lt, ge_iff_le]; omega) | (simp; omega)); rfl)
          | ((with_reducible apply wpQ_cmp (b := false)); rfl; rfl; rfl; (first | rfl | assumption | (simp only [cmpB, decide_eq_true_eq, decide_eq_false_iff_not, beq_iff_eq, bne_iff_ne, ne_eq, beq_eq_false_iff_ne, bne_eq_false_iff_eq, gt_iff_lt, ge_iff_le]; omega) | (simp; omega)); rfl)
          | ((with_reducible apply wpQ_cmp); rfl; rfl; rfl; rfl; rfl)
          | ((with_reducible apply wpQ_arith); rfl; rfl; rfl; (exact IntWalk.i64_in _ (by (try simp only [arithI]); omega)); rfl)); simp only [arithI, Act.put, Act.eval, List.setIfInBounds_toArray, List.set_cons_succ, List.set_cons_zero, Array.getD_eq_getD_getElem?, List.getElem?_toArray, List.getElem?_cons_succ, List.getElem?_cons_zero, Option.getD_some])
        refine wpQuiet_nil ?_
        intro wq hq_
        have HQ := hid hq_
        clear hq_
        clear HH
        have HH := HQ
        clear HQ
        go_wp2_with (first
          | ((first
              | ((with_reducible apply wpL_skip); rfl; skip)
              | ((with_reducible apply wpL_storeC (vs := (roundS (procN s l t).1 (kL.getD t 0) ((winUp (procN s l t).2 t).getD (t % 16) 0)).ws.map wrd) (x := .tmp 5) (sz := 8)); rfl; rfl; (exact S115); (exact HH.out); (exact .here); rfl; (exact wrd_one _); rfl; rfl; (intro w_ hq_; clear HH; have HH := hid hq_; clear hq_))
              | ((with_reducible apply wpL_move); rfl; rfl)
              | ((with_reducible apply wpL_assign); rfl; rfl)
              | ((with_reducible apply wpL_pick); rfl; rfl; rfl)
              | ((with_reducible apply wpL_not); rfl; rfl)
              | ((with_reducible apply wpL_cmp (b := true)); rfl; rfl; rfl; (first | rfl | assumption | (simp only [cmpB, decide_eq_true_eq, decide_eq_false_iff_not, beq_iff_eq, bne_iff_ne, ne_eq, beq_eq_false_iff_ne, bne_eq_false_iff_eq, gt_iff_lt, ge_iff_le]; omega) | (simp; omega)); rfl)
              | ((with_reducible apply wpL_cmp (b := false)); rfl; rfl; rfl; (first | rfl | assumption | (simp only [cmpB, decide_eq_true_eq, decide_eq_false_iff_not, beq_iff_eq, bne_iff_ne, ne_eq, beq_eq_false_iff_ne, bne_eq_false_iff_eq, gt_iff_lt, ge_iff_le]; omega) | (simp; omega)); rfl)
              | ((with_reducible apply wpL_cmp); rfl; rfl; rfl; rfl; rfl)
              | ((with_reducible apply wpL_arith); rfl; rfl; rfl; (exact IntWalk.i64_in _ (by (try simp only [arithI]); omega)); rfl)); (try simp only [arithI, Act.put, Act.eval, List.setIfInBounds_toArray, List.set_cons_succ, List.set_cons_zero, Array.getD_eq_getD_getElem?, List.getElem?_toArray, List.getElem?_cons_succ, List.getElem?_cons_zero, Option.getD_some])))
        go_roundw
        case rel => exact ⟨t + 1, by omega, by go_num, by rw [procN]; exact HH.out⟩
        case measure => simp [intOf]; omega
    · have ht64 : t = 64 := by omega
      have HT := hid ht64
      clear ht64
      go_wp2_with (first
        | ((first
            | ((with_reducible apply wpL_skip); rfl; skip)
            | ((with_reducible apply wpL_loadC (x := .tmp 5) A115 HH.out); rfl; (exact .here); rfl; rfl)
            | ((with_reducible apply wpL_loadC (x := .tmp 2) A115 HH.out); rfl; (exact .there (.there (.there .here))); rfl; rfl)
            | (go_at_call 91; (refine (plus_any _ (procN s l t).1 s).mono ?_); rintro e w2 ⟨rfl, hb⟩; (have hq_ := HH.out.grow hb); clear HH; have HH := hid hq_; clear hq_ hb)
            | ((with_reducible apply wpL_storeC (vs := (plusS (procN s l t).1 s).ws.map wrd) (x := .tmp 4) (sz := 8)); rfl; rfl; (exact S115); (exact HH.out); (exact .there .here); rfl; (exact wrd_one _); rfl; rfl; (intro w_ hq_; clear HH; have HH := hid hq_; clear hq_))
            | ((with_reducible apply wpL_move); rfl; rfl)
            | ((with_reducible apply wpL_assign); rfl; rfl)
            | ((with_reducible apply wpL_pick); rfl; rfl; rfl)
            | ((with_reducible apply wpL_not); rfl; rfl)
            | ((with_reducible apply wpL_cmp (b := true)); rfl; rfl; rfl; (first | rfl | assumption | (simp only [cmpB, decide_eq_true_eq, decide_eq_false_iff_not, beq_iff_eq, bne_iff_ne, ne_eq, beq_eq_false_iff_ne, bne_eq_false_iff_eq, gt_iff_lt, ge_iff_le]; omega) | (simp; omega)); rfl)
            | ((with_reducible apply wpL_cmp (b := false)); rfl; rfl; rfl; (first | rfl | assumption | (simp only [cmpB, decide_eq_true_eq, decide_eq_false_iff_not, beq_iff_eq, bne_iff_ne, ne_eq, beq_eq_false_iff_ne, bne_eq_false_iff_eq, gt_iff_lt, ge_iff_le]; omega) | (simp; omega)); rfl)
            | ((with_reducible apply wpL_cmp); rfl; rfl; rfl; rfl; rfl)
            | ((with_reducible apply wpL_arith); rfl; rfl; rfl; (exact IntWalk.i64_in _ (by (try simp only [arithI]); omega)); rfl)); (try simp only [arithI, Act.put, Act.eval, List.setIfInBounds_toArray, List.set_cons_succ, List.set_cons_zero, Array.getD_eq_getD_getElem?, List.getElem?_toArray, List.getElem?_cons_succ, List.getElem?_cons_zero, Option.getD_some])))
      obtain rfl : t = 64 := HT.out
      refine bodyPost_ret (res1 rfl (resC A115 HH.out (by rfl) (.there .here) rfl)) rfl ?_
      exact ⟨rfl, HH.out.below⟩
end Go.Proofs.Ytgkfopodhikckaa

namespace Go.Proofs.Ytgkfopodhikckaa
open Go.RowKit
theorem E22 : Elem Try.prog 22 5 1 1 := Elem.mk' (.int .u8 0) Try.underlying22 (by kernel_rfl) (by kernel_rfl) (by omega) (by omega)
theorem O5 : OneT Try.prog 5 := ⟨_, Try.underlying5, rfl⟩
/-- A slice of bytes that is read. -/
abbrev Byts (w : World) (v : Value) (l : List UInt8) : Prop := Sl w v 1 l.length (l.map byt)
theorem Byts.at {w : World} {a : Addr} {cap : Nat} {l : List UInt8} (h : Byts w (.slice (some a) l.length cap) l) {j : Nat} (hj : j < l.length) : w.cell? (a.add j) = some (byt (l.getD j 0)) :=
  h.cell j _ (by simp [hj])
section
variable {w0 : World} {S : List Nat} {bs : List (Nat × Obj)} {rows : List Row} {ops : Array Oper} {rest : List Oper} {a : Act} {dst : Option Tmp} {ty : TypeId} {pos : String} {after : Array Edge} {guard : Option (Nat × Bool)} {K : Act → Prop} {P : Program} {C : World → Prop}
theorem wpQ_idxB {t e : TypeId} {bytes : Nat} (hE : Elem P t e 1 bytes) {x i : Operand} {ad : Addr} {n c j : Nat} {q : Int} {k : IntKind} (hx : a.eval x = .slice (some ad) n c) (hi : a.eval i = .int k q) (hq : q = (j : Int)) (hj : j < n)
    (hg : Region.wanted { dst := dst, op := .indexAddr t x i, type := ty, pos := pos, after := after, guard := guard } (yielded ops a.tmps) = true)
    (h : wpQuiet P ops C K rest (a.put dst (.pointer (some (ad.add j))))) : wpQuiet P ops C K ({ dst := dst, op := .indexAddr t x i, type := ty, pos := pos, after := after, guard := guard } :: rest) a :=
  wpQ_index hE hx hi hq hj hg (by rw [Nat.mul_one]; exact h)
theorem wpQ_loadB {t : TypeId} (hA : OneT P t) {x : Operand} {ad : Addr} {v : Value} (hx : a.eval x = .pointer (some ad)) (hc : ∀ w, C w → w.cell? ad = some v)
    (hg : Region.wanted { dst := dst, op := .load t x, type := ty, pos := pos, after := after, guard := guard } (yielded ops a.tmps) = true)
    (h : wpQuiet P ops C K rest (a.put dst v)) : wpQuiet P ops C K ({ dst := dst, op := .load t x, type := ty, pos := pos, after := after, guard := guard } :: rest) a := by
  obtain ⟨d, hu, hd⟩ := hA
  exact wpQuiet_ex hg (fun w hw => ex_load_one hx hu hd (hc w hw)) h
end
/-- The word of four bytes. -/
def w4 (l : List UInt8) (k : Nat) : W32 := b2w (l.getD k 0) <<< 24 ||| b2w (l.getD (k + 1) 0) <<< 16 ||| b2w (l.getD (k + 2) 0) <<< 8 ||| b2w (l.getD (k + 3) 0)
/-- The first i of n words are told. -/
def fillL (f : Nat → W32) (n i : Nat) : List W32 := (List.range n).map fun j => if j < i then f j else 0
theorem fillL_len (f : Nat → W32) (n i : Nat) : (fillL f n i).length = n := by simp [fillL]
theorem fillL_get {f : Nat → W32} {n i j : Nat} (h : j < i) (hn : j < n) : (fillL f n i).getD j 0 = f j := by simp [fillL, hn, h]
theorem fillL_zero (f : Nat → W32) (n : Nat) : fillL f n 0 = List.replicate n 0 := by
  apply List.ext_getElem? ; intro j
  simp only [fillL, List.getElem?_map, List.getElem?_range, Nat.not_lt_zero, if_false, List.getElem?_replicate]
  by_cases h : j < n
  · simp [h]
  · simp [h]
theorem fillL_set (f : Nat → W32) {n i : Nat} (h : i < n) : (fillL f n i).set i (f i) = fillL f n (i + 1) := by
  apply List.ext_getElem
  · simp [fillL]
  · intro j h1 h2
    rw [List.getElem_set]
    simp only [fillL, List.getElem_map, List.getElem_range]
    by_cases hij : i = j
    · subst hij; simp
    · rw [if_neg hij]
      by_cases hj : j < i
      · rw [if_pos hj, if_pos (by omega)]
      · rw [if_neg hj, if_neg (by omega)]
theorem fillL_full (f : Nat → W32) (n : Nat) : fillL f n n = (List.range n).map f := by
  unfold fillL
  apply List.map_congr_left
  intro j hj
  rw [if_pos (by simpa using hj)]
def loadL (l : List UInt8) : List W32 := (List.range 16).map fun i => w4 l (4 * i)
theorem Z138 : (Try.prog.info? 138).map (·.zero) = some (some (.agg ((List.replicate 16 (0 : W32)).map wrd).toArray)) := by kernel_rfl
theorem S138 : (Try.prog.info? 138).map (·.size) = some 16 := by kernel_rfl
def LoadRel (w : World) (l : List UInt8) (g2 g3 : Nat) (i : Value) (wr : World) : Prop :=
  ∃ t : Nat, t ≤ 16 ∧ i = .int .i64 t ∧ Holds w [] [(g3, objC ((fillL (fun i => w4 l (4 * i)) 16 t).map wrd) 138), (g2, objC ((List.replicate 16 (0 : W32)).map wrd) 138)] [] wr
set_option maxRecDepth 100000 in
set_option maxHeartbeats 2000000 in
theorem load_any (w : World) (v : Value) (l : List UInt8) (hl : Byts w v l) (hlen : 64 ≤ l.length) : Calls Try.prog 80 #[v] w (RetL w (loadL l)) := by
  obtain ⟨ad, cap, rfl⟩ := hl.some (by omega)
  have HL := hid hl
  clear hl
  have HH := hid (Holds.init w)
  go_enter Try.func80, Try.ntmps80
  go_wp2_with (first
    | ((first
        | ((with_reducible apply wpL_skip); rfl; skip)
        | ((with_reducible apply wpL_allocC (dst := some 2) Z138 HH.out); rfl; (intro g2 w_ hq_; clear HH; have HH := hid hq_; clear hq_))
        | ((with_reducible apply wpL_allocC (dst := some 3) Z138 HH.out); rfl; (intro g3 w_ hq_; clear HH; have HH := hid hq_; clear hq_))
        | ((with_reducible apply wpL_move); rfl; rfl)
        | ((with_reducible apply wpL_assign); rfl; rfl)
        | ((with_reducible apply wpL_pick); rfl; rfl; rfl)
        | ((with_reducible apply wpL_not); rfl; rfl)
        | ((with_reducible apply wpL_cmp (b := true)); rfl; rfl; rfl; (first | rfl | assumption | (simp only [cmpB, decide_eq_true_eq, decide_eq_false_iff_not, beq_iff_eq, bne_iff_ne, ne_eq, beq_eq_false_iff_ne, bne_eq_false_iff_eq, gt_iff_lt, ge_iff_le]; omega) | (simp; omega)); rfl)
        | ((with_reducible apply wpL_cmp (b := false)); rfl; rfl; rfl; (first | rfl | assumption | (simp only [cmpB, decide_eq_true_eq, decide_eq_false_iff_not, beq_iff_eq, bne_iff_ne, ne_eq, beq_eq_false_iff_ne, bne_eq_false_iff_eq, gt_iff_lt, ge_iff_le]; omega) | (simp; omega)); rfl)
        | ((with_reducible apply wpL_cmp); rfl; rfl; rfl; rfl; rfl)
        | ((with_reducible apply wpL_arith); rfl; rfl; rfl; (exact IntWalk.i64_in _ (by (try simp only [arithI]); omega)); rfl)); (try simp only [arithI, Act.put, Act.eval, List.setIfInBounds_toArray, List.set_cons_succ, List.set_cons_zero, Array.getD_eq_getD_getElem?, List.getElem?_toArray, List.getElem?_cons_succ, List.getElem?_cons_zero, Option.getD_some])))
  go_loopw [5] (LoadRel w l g2 g3) (fun i _ => 16 - (intOf i).toNat)
  case atStart => exact ⟨0, Nat.zero_le _, rfl, by rw [fillL_zero]; exact HH.out⟩
  case round =>
    obtain ⟨t, ht, rfl, hr⟩ := hrel
    clear HH
    have HH := hid hr
    clear hr
    by_cases hlt : t < 16
    · have hfl := fillL_len (fun i => w4 l (4 * i)) 16 t
      have HS := hid (fillL_set (fun i => w4 l (4 * i)) hlt)
      go_wp2_with (first
        | ((first
            | ((with_reducible apply wpL_skip); rfl; skip)
            | ((with_reducible apply wpL_move); rfl; rfl)
            | ((with_reducible apply wpL_assign); rfl; rfl)
            | ((with_reducible apply wpL_pick); rfl; rfl; rfl)
            | ((with_reducible apply wpL_not); rfl; rfl)
            | ((with_reducible apply wpL_cmp (b := true)); rfl; rfl; rfl; (first | rfl | assumption | (simp only [cmpB, decide_eq_true_eq, decide_eq_false_iff_not, beq_iff_eq, bne_iff_ne, ne_eq, beq_eq_false_iff_ne, bne_eq_false_iff_eq, gt_iff_lt, ge_iff_le]; omega) | (simp; omega)); rfl)
            | ((with_reducible apply wpL_cmp (b := false)); rfl; rfl; rfl; (first | rfl | assumption | (simp only [cmpB, decide_eq_true_eq, decide_eq_false_iff_not, beq_iff_eq, bne_iff_ne, ne_eq, beq_eq_false_iff_ne, bne_eq_false_iff_eq, gt_iff_lt, ge_iff_le]; omega) | (simp; omega)); rfl)
            | ((with_reducible apply wpL_cmp); rfl; rfl; rfl; rfl; rfl)
            | ((with_reducible apply wpL_arith); rfl; rfl; rfl; (exact IntWalk.i64_in _ (by (try simp only [arithI]); omega)); rfl)); (try simp only [arithI, Act.put, Act.eval, List.setIfInBounds_toArray, List.set_cons_succ, List.set_cons_zero, Array.getD_eq_getD_getElem?, List.getElem?_toArray, List.getElem?_cons_succ, List.getElem?_cons_zero, Option.getD_some])))
      refine wp_region_tailQ 35 (by kernel_rfl) (by kernel_rfl) (by kernel_rfl) HH.out ?_
      simp only [List.take_succ_cons, List.take_zero, List.drop_succ_cons, List.drop_zero]
      repeat ((first
        | ((with_reducible apply wpQ_skip); rfl; skip)
        | ((with_reducible apply wpQ_idxB (x := .tmp 9) (j := 4 * t) E22); rfl; rfl; (exact (by omega)); (exact (by omega)); rfl)
        | ((with_reducible apply wpQ_idxB (x := .tmp 16) (j := 4 * t + 1) E22); rfl; rfl; (exact (by omega)); (exact (by omega)); rfl)
        | ((with_reducible apply wpQ_idxB (x := .tmp 25) (j := 4 * t + 2) E22); rfl; rfl; (exact (by omega)); (exact (by omega)); rfl)
        | ((with_reducible apply wpQ_idxB (x := .tmp 34) (j := 4 * t + 3) E22); rfl; rfl; (exact (by omega)); (exact (by omega)); rfl)
        | ((with_reducible apply wpQ_loadB O5); rfl; (intro wq hwq; exact (show Byts wq _ l from hwq.sl HL.out).at (by omega)); rfl)
        | ((with_reducible apply wpQ_indexVar (m := t) Try.underlying138 S105); rfl; rfl; rfl; (exact hlt); rfl)
        | ((with_reducible apply wpQ_b2w Try.underlying5 Try.underlying105); rfl; rfl)
        | ((with_reducible apply wpQ_wshl); rfl; rfl; (exact (by decide)); rfl)
        | ((with_reducible apply wpQ_wop); rfl; rfl; rfl; rfl)
        | ((with_reducible apply wpQ_move); rfl; rfl)
        | ((with_reducible apply wpQ_assign); rfl; rfl)
        | ((with_reducible apply wpQ_pick); rfl; rfl; rfl)
        | ((with_reducible apply wpQ_not); rfl; rfl)
        | ((with_reducible apply wpQ_cmp (b := true)); rfl; rfl; rfl; (first | rfl | assumption | (simp only [cmpB, decide_eq_true_eq, decide_eq_false_iff_not, beq_iff_eq, bne_iff_ne, ne_eq, beq_eq_false_iff_ne, bne_eq_false_iff_eq, gt_iff_lt, ge_iff_le]; omega) | (simp; omega)); rfl)
        | ((with_reducible apply wpQ_cmp (b := false)); rfl; rfl; rfl; (first | rfl | assumption | (simp only [cmpB, decide_eq_true_eq, decide_eq_false_iff_not, beq_iff_eq, bne_iff_ne, ne_eq, beq_eq_false_iff_ne, bne_eq_false_iff_eq, gt_iff_lt, ge_iff_le]; omega) | (simp; omega)); rfl)
        | ((with_reducible apply wpQ_cmp); rfl; rfl; rfl; rfl; rfl)
        | ((with_reducible apply wpQ_arith); rfl; rfl; rfl; (exact IntWalk.i64_in _ (by (try simp only [arithI]); omega)); rfl)); simp only [arithI, Act.put, Act.eval, List.setIfInBounds_toArray, List.set_cons_succ, List.set_cons_zero, Array.getD_eq_getD_getElem?, List.getElem?_toArray, List.getElem?_cons_succ, List.getElem?_cons_zero, Option.getD_some])
      refine wpQuiet_nil ?_
      intro wq hq_
      have HQ := hid hq_
      clear hq_
      clear HH
      have HH := HQ
      clear HQ
      go_wp2_with (first
        | ((first
            | ((with_reducible apply wpL_skip); rfl; skip)
            | ((with_reducible apply wpL_storeW (l := fillL (fun i => w4 l (4 * i)) 16 t) (m := t) (v := w4 l (4 * t))); rfl; rfl; (exact S105); (exact HH.out); (exact .here); (exact (by omega)); rfl; (intro w_ hq_; rw [HS.out] at hq_; clear HH; have HH := hid hq_; clear hq_))
            | ((with_reducible apply wpL_move); rfl; rfl)
            | ((with_reducible apply wpL_assign); rfl; rfl)
            | ((with_reducible apply wpL_pick); rfl; rfl; rfl)
            | ((with_reducible apply wpL_not); rfl; rfl)
            | ((with_reducible apply wpL_cmp (b := true)); rfl; rfl; rfl; (first | rfl | assumption | (simp only [cmpB, decide_eq_true_eq, decide_eq_false_iff_not, beq_iff_eq, bne_iff_ne, ne_eq, beq_eq_false_iff_ne, bne_eq_false_iff_eq, gt_iff_lt, ge_iff_le]; omega) | (simp; omega)); rfl)
            | ((with_reducible apply wpL_cmp (b := false)); rfl; rfl; rfl; (first | rfl | assumption | (simp only [cmpB, decide_eq_true_eq, decide_eq_false_iff_not, beq_iff_eq, bne_iff_ne, ne_eq, beq_eq_false_iff_ne, bne_eq_false_iff_eq, gt_iff_lt, ge_iff_le]; omega) | (simp; omega)); rfl)
            | ((with_reducible apply wpL_cmp); rfl; rfl; rfl; rfl; rfl)
            | ((with_reducible apply wpL_arith); rfl; rfl; rfl; (exact IntWalk.i64_in _ (by (try simp only [arithI]); omega)); rfl)); (try simp only [arithI, Act.put, Act.eval, List.setIfInBounds_toArray, List.set_cons_succ, List.set_cons_zero, Array.getD_eq_getD_getElem?, List.getElem?_toArray, List.getElem?_cons_succ, List.getElem?_cons_zero, Option.getD_some])))
      go_roundw
      case rel => exact ⟨t + 1, by omega, by go_num, HH.out⟩
      case measure => simp [intOf]; omega
    · have ht16 : t = 16 := by omega
      have HT := hid ht16
      clear ht16
      go_wp2_with (first
        | ((first
            | ((with_reducible apply wpL_skip); rfl; skip)
            | ((with_reducible apply wpL_loadC (x := .tmp 3) A138 HH.out); rfl; (exact .here); (rw [List.length_map, fillL_len]); rfl)
            | ((with_reducible apply wpL_storeC (vs := (fillL (fun i => w4 l (4 * i)) 16 t).map wrd) (x := .tmp 2) (sz := 16)); rfl; rfl; (exact S138); (exact HH.out); (exact .there .here); (rw [List.length_map, fillL_len]); (exact wrd_one _); rfl; rfl; (intro w_ hq_; clear HH; have HH := hid hq_; clear hq_))
            | ((with_reducible apply wpL_move); rfl; rfl)
            | ((with_reducible apply wpL_assign); rfl; rfl)
            | ((with_reducible apply wpL_pick); rfl; rfl; rfl)
            | ((with_reducible apply wpL_not); rfl; rfl)
            | ((with_reducible apply wpL_cmp (b := true)); rfl; rfl; rfl; (first | rfl | assumption | (simp only [cmpB, decide_eq_true_eq, decide_eq_false_iff_not, beq_iff_eq, bne_iff_ne, ne_eq, beq_eq_false_iff_ne, bne_eq_false_iff_eq, gt_iff_lt, ge_iff_le]; omega) | (simp; omega)); rfl)
            | ((with_reducible apply wpL_cmp (b := false)); rfl; rfl; rfl; (first | rfl | assumption | (simp only [cmpB, decide_eq_true_eq, decide_eq_false_iff_not, beq_iff_eq, bne_iff_ne, ne_eq, beq_eq_false_iff_ne, bne_eq_false_iff_eq, gt_iff_lt, ge_iff_le]; omega) | (simp; omega)); rfl)
            | ((with_reducible apply wpL_cmp); rfl; rfl; rfl; rfl; rfl)
            | ((with_reducible apply wpL_arith); rfl; rfl; rfl; (exact IntWalk.i64_in _ (by (try simp only [arithI]); omega)); rfl)); (try simp only [arithI, Act.put, Act.eval, List.setIfInBounds_toArray, List.set_cons_succ, List.set_cons_zero, Array.getD_eq_getD_getElem?, List.getElem?_toArray, List.getElem?_cons_succ, List.getElem?_cons_zero, Option.getD_some])))
      refine bodyPost_ret (res1 rfl (resC A138 HH.out (by rfl) (.there .here) (by rw [List.length_map, fillL_len]))) rfl ?_
      refine ⟨?_, HH.out.below⟩
      rw [HT.out, fillL_full]
      rfl
/-- The words of the schedule. -/
def schW (l : List UInt8) (t : Nat) : W32 :=
  if h : t < 16 then w4 l (4 * t) else sg1 (schW l (t - 2)) + schW l (t - 7) + sg0 (schW l (t - 15)) + schW l (t - 16)
termination_by t
decreasing_by all_goals omega
def SchRel (w : World) (l : List UInt8) (g2 g3 : Nat) (i : Value) (wr : World) : Prop :=
  ∃ t : Nat, t ≤ 64 ∧ i = .int .i64 t ∧ Holds w [] [(g3, objC ((fillL (schW l) 64 t).map wrd) 107), (g2, objC ((List.replicate 64 (0 : W32)).map wrd) 107)] [] wr
set_option maxRecDepth 100000 in
set_option maxHeartbeats 2000000 in
theorem schedule_any (w : World) (v : Value) (l : List UInt8) (hl : Byts w v l) (hlen : 64 ≤ l.length) : Calls Try.prog 59 #[v] w (RetL w ((List.range 64).map (schW l))) := by
  obtain ⟨ad, cap, rfl⟩ := hl.some (by omega)
  have HL := hid hl
  clear hl
  have HH := hid (Holds.init w)
  go_enter Try.func59, Try.ntmps59
  go_wp2_with (first
    | ((first
        | ((with_reducible apply wpL_skip); rfl; skip)
        | ((with_reducible apply wpL_allocC (dst := some 2) Z107 HH.out); rfl; (intro g2 w_ hq_; clear HH; have HH := hid hq_; clear hq_))
        | ((with_reducible apply wpL_allocC (dst := some 3) Z107 HH.out); rfl; (intro g3 w_ hq_; clear HH; have HH := hid hq_; clear hq_))
        | ((with_reducible apply wpL_move); rfl; rfl)
        | ((with_reducible apply wpL_assign); rfl; rfl)
        | ((with_reducible apply wpL_pick); rfl; rfl; rfl)
        | ((with_reducible apply wpL_not); rfl; rfl)
        | ((with_reducible apply wpL_cmp (b := true)); rfl; rfl; rfl; (first | rfl | assumption | (simp only [cmpB, decide_eq_true_eq, decide_eq_false_iff_not, beq_iff_eq, bne_iff_ne, ne_eq, beq_eq_false_iff_ne, bne_eq_false_iff_eq, gt_iff_lt, ge_iff_le]; omega) | (simp; omega)); rfl)
        | ((with_reducible apply wpL_cmp (b := false)); rfl; rfl; rfl; (first | rfl | assumption | (simp only [cmpB, decide_eq_true_eq, decide_eq_false_iff_not, beq_iff_eq, bne_iff_ne, ne_eq, beq_eq_false_iff_ne, bne_eq_false_iff_eq, gt_iff_lt, ge_iff_le]; omega) | (simp; omega)); rfl)
        | ((with_reducible apply wpL_cmp); rfl; rfl; rfl; rfl; rfl)
        | ((with_reducible apply wpL_arith); rfl; rfl; rfl; (exact IntWalk.i64_in _ (by (try simp only [arithI]); omega)); rfl)); (try simp only [arithI, Act.put, Act.eval, List.setIfInBounds_toArray, List.set_cons_succ, List.set_cons_zero, Array.getD_eq_getD_getElem?, List.getElem?_toArray, List.getElem?_cons_succ, List.getElem?_cons_zero, Option.getD_some])))
  go_loopw [4] (SchRel w l g2 g3) (fun i _ => 64 - (intOf i).toNat)
  case atStart => exact ⟨0, Nat.zero_le _, rfl, by rw [fillL_zero]; exact HH.out⟩
  case round =>
    obtain ⟨t, ht, rfl, hr⟩ := hrel
    clear HH
    have HH := hid hr
    clear hr
    by_cases hlt : t < 64
    · have hfl := fillL_len (schW l) 64 t
      have HS := hid (fillL_set (schW l) hlt)
      by_cases h16 : t < 16
      · have hw : schW l t = w4 l (4 * t) := by rw [schW, dif_pos h16]
        have HW := hid hw
        clear hw
        go_wp2_with (first
          | ((first
              | ((with_reducible apply wpL_skip); rfl; skip)
              | ((with_reducible apply wpL_move); rfl; rfl)
              | ((with_reducible apply wpL_assign); rfl; rfl)
              | ((with_reducible apply wpL_pick); rfl; rfl; rfl)
              | ((with_reducible apply wpL_not); rfl; rfl)
              | ((with_reducible apply wpL_cmp (b := true)); rfl; rfl; rfl; (first | rfl | assumption | (simp only [cmpB, decide_eq_true_eq, decide_eq_false_iff_not, beq_iff_eq, bne_iff_ne, ne_eq, beq_eq_false_iff_ne, bne_eq_false_iff_eq, gt_iff_lt, ge_iff_le]; omega) | (simp; omega)); rfl)
              | ((with_reducible apply wpL_cmp (b := false)); rfl; rfl; rfl; (first | rfl | assumption | (simp only [cmpB, decide_eq_true_eq, decide_eq_false_iff_not, beq_iff_eq, bne_iff_ne, ne_eq, beq_eq_false_iff_ne, bne_eq_false_iff_eq, gt_iff_lt, ge_iff_le]; omega) | (simp; omega)); rfl)
              | ((with_reducible apply wpL_cmp); rfl; rfl; rfl; rfl; rfl)
              | ((with_reducible apply wpL_arith); rfl; rfl; rfl; (exact IntWalk.i64_in _ (by (try simp only [arithI]); omega)); rfl)); (try simp only [arithI, Act.put, Act.eval, List.setIfInBounds_toArray, List.set_cons_succ, List.set_cons_zero, Array.getD_eq_getD_getElem?, List.getElem?_toArray, List.getElem?_cons_succ, List.getElem?_cons_zero, Option.getD_some])))
        refine wp_region_tailQ 35 (by kernel_rfl) (by kernel_rfl) (by kernel_rfl) HH.out ?_
        simp only [List.take_succ_cons, List.take_zero, List.drop_succ_cons, List.drop_zero]
        repeat ((first
          | ((with_reducible apply wpQ_skip); rfl; skip)
          | ((with_reducible apply wpQ_idxB (x := .tmp 14) (j := 4 * t) E22); rfl; rfl; (exact (by omega)); (exact (by omega)); rfl)
          | ((with_reducible apply wpQ_idxB (x := .tmp 21) (j := 4 * t + 1) E22); rfl; rfl; (exact (by omega)); (exact (by omega)); rfl)
          | ((with_reducible apply wpQ_idxB (x := .tmp 30) (j := 4 * t + 2) E22); rfl; rfl; (exact (by omega)); (exact (by omega)); rfl)
          | ((with_reducible apply wpQ_idxB (x := .tmp 39) (j := 4 * t + 3) E22); rfl; rfl; (exact (by omega)); (exact (by omega)); rfl)
          | ((with_reducible apply wpQ_loadB O5); rfl; (intro wq hwq; exact (show Byts wq _ l from hwq.sl HL.out).at (by omega)); rfl)
          | ((with_reducible apply wpQ_indexVar (m := t) Try.underlying107 S105); rfl; rfl; rfl; (exact hlt); rfl)
          | ((with_reducible apply wpQ_b2w Try.underlying5 Try.underlying105); rfl; rfl)
          | ((with_reducible apply wpQ_wshl); rfl; rfl; (exact (by decide)); rfl)
          | ((with_reducible apply wpQ_wop); rfl; rfl; rfl; rfl)
          | ((with_reducible apply wpQ_move); rfl; rfl)
          | ((with_reducible apply wpQ_assign); rfl; rfl)
          | ((with_reducible apply wpQ_pick); rfl; rfl; rfl)
          | ((with_reducible apply wpQ_not); rfl; rfl)
          | ((with_reducible apply wpQ_cmp (b := true)); rfl; rfl; rfl; (first | rfl | assumption | (simp only [cmpB, decide_eq_true_eq, decide_eq_false_iff_not, beq_iff_eq, bne_iff_ne, ne_eq, beq_eq_false_iff_ne, bne_eq_false_iff_eq, gt_iff_lt, ge_iff_le]; omega) | (simp; omega)); rfl)
          | ((with_reducible apply wpQ_cmp (b := false)); rfl; rfl; rfl; (first | rfl | assumption | (simp only [cmpB, decide_eq_true_eq, decide_eq_false_iff_not, beq_iff_eq, bne_iff_ne, ne_eq, beq_eq_false_iff_ne, bne_eq_false_iff_eq, gt_iff_lt, ge_iff_le]; omega) | (simp; omega)); rfl)
          | ((with_reducible apply wpQ_cmp); rfl; rfl; rfl; rfl; rfl)
          | ((with_reducible apply wpQ_arith); rfl; rfl; rfl; (exact IntWalk.i64_in _ (by (try simp only [arithI]); omega)); rfl)); simp only [arithI, Act.put, Act.eval, List.setIfInBounds_toArray, List.set_cons_succ, List.set_cons_zero, Array.getD_eq_getD_getElem?, List.getElem?_toArray, List.getElem?_cons_succ, List.getElem?_cons_zero, Option.getD_some])
        refine wpQuiet_nil ?_
        intro wq hq_
        have HQ := hid hq_
        clear hq_
        clear HH
        have HH := HQ
        clear HQ
        go_wp2_with (first
          | ((first
              | ((with_reducible apply wpL_skip); rfl; skip)
              | ((with_reducible apply wpL_storeW (l := fillL (schW l) 64 t) (m := t) (v := w4 l (4 * t))); rfl; rfl; (exact S105); (exact HH.out); (exact .here); (exact (by omega)); rfl; (intro w_ hq_; rw [← HW.out, HS.out] at hq_; clear HH; have HH := hid hq_; clear hq_))
              | ((with_reducible apply wpL_move); rfl; rfl)
              | ((with_reducible apply wpL_assign); rfl; rfl)
              | ((with_reducible apply wpL_pick); rfl; rfl; rfl)
              | ((with_reducible apply wpL_not); rfl; rfl)
              | ((with_reducible apply wpL_cmp (b := true)); rfl; rfl; rfl; (first | rfl | assumption | (simp only [cmpB, decide_eq_true_eq, decide_eq_false_iff_not, beq_iff_eq, bne_iff_ne, ne_eq, beq_eq_false_iff_ne, bne_eq_false_iff_eq, gt_iff_lt, ge_iff_le]; omega) | (simp; omega)); rfl)
              | ((with_reducible apply wpL_cmp (b := false)); rfl; rfl; rfl; (first | rfl | assumption | (simp only [cmpB, decide_eq_true_eq, decide_eq_false_iff_not, beq_iff_eq, bne_iff_ne, ne_eq, beq_eq_false_iff_ne, bne_eq_false_iff_eq, gt_iff_lt, ge_iff_le]; omega) | (simp; omega)); rfl)
              | ((with_reducible apply wpL_cmp); rfl; rfl; rfl; rfl; rfl)
              | ((with_reducible apply wpL_arith); rfl; rfl; rfl; (exact IntWalk.i64_in _ (by (try simp only [arithI]); omega)); rfl)); (try simp only [arithI, Act.put, Act.eval, List.setIfInBounds_toArray, List.set_cons_succ, List.set_cons_zero, Array.getD_eq_getD_getElem?, List.getElem?_toArray, List.getElem?_cons_succ, List.getElem?_cons_zero, Option.getD_some])))
        go_roundw
        case rel => exact ⟨t + 1, by omega, by go_num, HH.out⟩
        case measure => simp [intOf]; omega
      · have hw : schW l t = sg1 (schW l (t - 2)) + schW l (t - 7) + sg0 (schW l (t - 15)) + schW l (t - 16) := by rw [schW, dif_neg h16]
        have HW := hid hw
        clear hw
        have g2' : (fillL (schW l) 64 t).getD (t - 2) 0 = schW l (t - 2) := fillL_get (by omega) (by omega)
        have g7' : (fillL (schW l) 64 t).getD (t - 7) 0 = schW l (t - 7) := fillL_get (by omega) (by omega)
        have g15' : (fillL (schW l) 64 t).getD (t - 15) 0 = schW l (t - 15) := fillL_get (by omega) (by omega)
        have g16' : (fillL (schW l) 64 t).getD (t - 16) 0 = schW l (t - 16) := fillL_get (by omega) (by omega)
        have G2 := hid (show ((fillL (schW l) 64 t).map wrd)[0 + (t - 2)]? = some (wrd (schW l (t - 2))) by rw [← g2']; exact wget (by omega))
        have G7 := hid (show ((fillL (schW l) 64 t).map wrd)[0 + (t - 7)]? = some (wrd (schW l (t - 7))) by rw [← g7']; exact wget (by omega))
        have G15 := hid (show ((fillL (schW l) 64 t).map wrd)[0 + (t - 15)]? = some (wrd (schW l (t - 15))) by rw [← g15']; exact wget (by omega))
        have G16 := hid (show ((fillL (schW l) 64 t).map wrd)[0 + (t - 16)]? = some (wrd (schW l (t - 16))) by rw [← g16']; exact wget (by omega))
        clear g2' g7' g15' g16'
        go_wp2_with (first
          | ((first
              | ((with_reducible apply wpL_skip); rfl; skip)
              | ((with_reducible apply wpL_move); rfl; rfl)
              | ((with_reducible apply wpL_assign); rfl; rfl)
              | ((with_reducible apply wpL_pick); rfl; rfl; rfl)
              | ((with_reducible apply wpL_not); rfl; rfl)
              | ((with_reducible apply wpL_cmp (b := true)); rfl; rfl; rfl; (first | rfl | assumption | (simp only [cmpB, decide_eq_true_eq, decide_eq_false_iff_not, beq_iff_eq, bne_iff_ne, ne_eq, beq_eq_false_iff_ne, bne_eq_false_iff_eq, gt_iff_lt, ge_iff_le]; omega) | (simp; omega)); rfl)
              | ((with_reducible apply wpL_cmp (b := false)); rfl; rfl; rfl; (first | rfl | assumption | (simp only [cmpB, decide_eq_true_eq, decide_eq_false_iff_not, beq_iff_eq, bne_iff_ne, ne_eq, beq_eq_false_iff_ne, bne_eq_false_iff_eq, gt_iff_lt, ge_iff_le]; omega) | (simp; omega)); rfl)
              | ((with_reducible apply wpL_cmp); rfl; rfl; rfl; rfl; rfl)
              | ((with_reducible apply wpL_arith); rfl; rfl; rfl; (exact IntWalk.i64_in _ (by (try simp only [arithI]); omega)); rfl)); (try simp only [arithI, Act.put, Act.eval, List.setIfInBounds_toArray, List.set_cons_succ, List.set_cons_zero, Array.getD_eq_getD_getElem?, List.getElem?_toArray, List.getElem?_cons_succ, List.getElem?_cons_zero, Option.getD_some])))
        refine wp_region_holds (by kernel_rfl) (by kernel_rfl) HH.out ?_
        repeat ((first
          | ((with_reducible apply wpQ_skip); rfl; skip)
          | ((with_reducible apply wpQ_indexVar (i := .tmp 49) (m := t - 2) Try.underlying107 S105); rfl; rfl; (exact (by omega)); (exact (by omega)); rfl)
          | ((with_reducible apply wpQ_indexVar (i := .tmp 53) (m := t - 15) Try.underlying107 S105); rfl; rfl; (exact (by omega)); (exact (by omega)); rfl)
          | ((with_reducible apply wpQ_load1 (x := .tmp 50) (v := wrd (schW l (t - 2))) O105); rfl; (exact .here); (exact G2.out); rfl)
          | ((with_reducible apply wpQ_load1 (x := .tmp 54) (v := wrd (schW l (t - 15))) O105); rfl; (exact .here); (exact G15.out); rfl)
          | ((with_reducible apply wpQ_move); rfl; rfl)
          | ((with_reducible apply wpQ_assign); rfl; rfl)
          | ((with_reducible apply wpQ_pick); rfl; rfl; rfl)
          | ((with_reducible apply wpQ_not); rfl; rfl)
          | ((with_reducible apply wpQ_cmp (b := true)); rfl; rfl; rfl; (first | rfl | assumption | (simp only [cmpB, decide_eq_true_eq, decide_eq_false_iff_not, beq_iff_eq, bne_iff_ne, ne_eq, beq_eq_false_iff_ne, bne_eq_false_iff_eq, gt_iff_lt, ge_iff_le]; omega) | (simp; omega)); rfl)
          | ((with_reducible apply wpQ_cmp (b := false)); rfl; rfl; rfl; (first | rfl | assumption | (simp only [cmpB, decide_eq_true_eq, decide_eq_false_iff_not, beq_iff_eq, bne_iff_ne, ne_eq, beq_eq_false_iff_ne, bne_eq_false_iff_eq, gt_iff_lt, ge_iff_le]; omega) | (simp; omega)); rfl)
          | ((with_reducible apply wpQ_cmp); rfl; rfl; rfl; rfl; rfl)
          | ((with_reducible apply wpQ_arith); rfl; rfl; rfl; (exact IntWalk.i64_in _ (by (try simp only [arithI]); omega)); rfl)); simp only [arithI, Act.put, Act.eval, List.setIfInBounds_toArray, List.set_cons_succ, List.set_cons_zero, Array.getD_eq_getD_getElem?, List.getElem?_toArray, List.getElem?_cons_succ, List.getElem?_cons_zero, Option.getD_some])
        refine wpQuiet_nil ?_
        intro wq hq_
        have HQ := hid hq_
        clear hq_
        clear HH
        have HH := HQ
        clear HQ
        go_wp2
        refine wp_region_tailQ 29 (by kernel_rfl) (by kernel_rfl) (by kernel_rfl) HH.out ?_
        simp only [List.take_succ_cons, List.take_zero, List.drop_succ_cons, List.drop_zero]
        repeat ((first
          | ((with_reducible apply wpQ_skip); rfl; skip)
          | ((with_reducible apply wpQ_indexVar (i := .tmp 66) (m := t - 7) Try.underlying107 S105); rfl; rfl; (exact (by omega)); (exact (by omega)); rfl)
          | ((with_reducible apply wpQ_indexVar (i := .tmp 80) (m := t - 16) Try.underlying107 S105); rfl; rfl; (exact (by omega)); (exact (by omega)); rfl)
          | ((with_reducible apply wpQ_indexVar (i := .tmp 56) (m := t) Try.underlying107 S105); rfl; rfl; rfl; (exact hlt); rfl)
          | ((with_reducible apply wpQ_load1 (x := .tmp 67) (v := wrd (schW l (t - 7))) O105); rfl; (exact .here); (exact G7.out); rfl)
          | ((with_reducible apply wpQ_load1 (x := .tmp 81) (v := wrd (schW l (t - 16))) O105); rfl; (exact .here); (exact G16.out); rfl)
          | ((with_reducible apply wpQ_rotate); rfl; rfl; (exact (by decide)); rfl)
          | ((with_reducible apply wpQ_wop); rfl; rfl; rfl; rfl)
          | ((with_reducible apply wpQ_wshr); rfl; rfl; (exact (by decide)); rfl)
          | ((with_reducible apply wpQ_move); rfl; rfl)
          | ((with_reducible apply wpQ_assign); rfl; rfl)
          | ((with_reducible apply wpQ_pick); rfl; rfl; rfl)
          | ((with_reducible apply wpQ_not); rfl; rfl)
          | ((with_reducible apply wpQ_cmp (b := true)); rfl; rfl; rfl; (first | rfl | assumption | (simp only [cmpB, decide_eq_true_eq, decide_eq_false_iff_not, beq_iff_eq, bne_iff_ne, ne_eq, beq_eq_false_iff_ne, bne_eq_false_iff_eq, gt_iff_lt, ge_iff_le]; omega) | (simp; omega)); rfl)
          | ((with_reducible apply wpQ_cmp (b := false)); rfl; rfl; rfl; (first | rfl | assumption | (simp only [cmpB, decide_eq_true_eq, decide_eq_false_iff_not, beq_iff_eq, bne_iff_ne, ne_eq, beq_eq_false_iff_ne, bne_eq_false_iff_eq, gt_iff_lt, ge_iff_le]; omega) | (simp; omega)); rfl)
          | ((with_reducible apply wpQ_cmp); rfl; rfl; rfl; rfl; rfl)
          | ((with_reducible apply wpQ_arith); rfl; rfl; rfl; (exact IntWalk.i64_in _ (by (try simp only [arithI]); omega)); rfl)); simp only [arithI, Act.put, Act.eval, List.setIfInBounds_toArray, List.set_cons_succ, List.set_cons_zero, Array.getD_eq_getD_getElem?, List.getElem?_toArray, List.getElem?_cons_succ, List.getElem?_cons_zero, Option.getD_some])
        refine wpQuiet_nil ?_
        intro wq hq_
        have HQ := hid hq_
        clear hq_
        clear HH
        have HH := HQ
        clear HQ
        go_wp2_with (first
          | ((first
              | ((with_reducible apply wpL_skip); rfl; skip)
              | ((with_reducible apply wpL_storeW (l := fillL (schW l) 64 t) (m := t) (v := sg1 (schW l (t - 2)) + schW l (t - 7) + sg0 (schW l (t - 15)) + schW l (t - 16))); rfl; rfl; (exact S105); (exact HH.out); (exact .here); (exact (by omega)); rfl; (intro w_ hq_; rw [← HW.out, HS.out] at hq_; clear HH; have HH := hid hq_; clear hq_))
              | ((with_reducible apply wpL_move); rfl; rfl)
              | ((with_reducible apply wpL_assign); rfl; rfl)
              | ((with_reducible apply wpL_pick); rfl; rfl; rfl)
              | ((with_reducible apply wpL_not); rfl; rfl)
              | ((with_reducible apply wpL_cmp (b := true)); rfl; rfl; rfl; (first | rfl | assumption | (simp only [cmpB, decide_eq_true_eq, decide_eq_false_iff_not, beq_iff_eq, bne_iff_ne, ne_eq, beq_eq_false_iff_ne, bne_eq_false_iff_eq, gt_iff_lt, ge_iff_le]; omega) | (simp; omega)); rfl)
              | ((with_reducible apply wpL_cmp (b := false)); rfl; rfl; rfl; (first | rfl | assumption | (simp only [cmpB, decide_eq_true_eq, decide_eq_false_iff_not, beq_iff_eq, bne_iff_ne, ne_eq, beq_eq_false_iff_ne, bne_eq_false_iff_eq, gt_iff_lt, ge_iff_le]; omega) | (simp; omega)); rfl)
              | ((with_reducible apply wpL_cmp); rfl; rfl; rfl; rfl; rfl)
              | ((with_reducible apply wpL_arith); rfl; rfl; rfl; (exact IntWalk.i64_in _ (by (try simp only [arithI]); omega)); rfl)); (try simp only [arithI, Act.put, Act.eval, List.setIfInBounds_toArray, List.set_cons_succ, List.set_cons_zero, Array.getD_eq_getD_getElem?, List.getElem?_toArray, List.getElem?_cons_succ, List.getElem?_cons_zero, Option.getD_some])))
        go_roundw
        case rel => exact ⟨t + 1, by omega, by go_num, HH.out⟩
        case measure => simp [intOf]; omega
    · have ht64 : t = 64 := by omega
      have HT := hid ht64
      clear ht64
      go_wp2_with (first
        | ((first
            | ((with_reducible apply wpL_skip); rfl; skip)
            | ((with_reducible apply wpL_loadC (x := .tmp 3) A107 HH.out); rfl; (exact .here); (rw [List.length_map, fillL_len]); rfl)
            | ((with_reducible apply wpL_storeC (vs := (fillL (schW l) 64 t).map wrd) (x := .tmp 2) (sz := 64)); rfl; rfl; (exact S107); (exact HH.out); (exact .there .here); (rw [List.length_map, fillL_len]); (exact wrd_one _); rfl; rfl; (intro w_ hq_; clear HH; have HH := hid hq_; clear hq_))
            | ((with_reducible apply wpL_move); rfl; rfl)
            | ((with_reducible apply wpL_assign); rfl; rfl)
            | ((with_reducible apply wpL_pick); rfl; rfl; rfl)
            | ((with_reducible apply wpL_not); rfl; rfl)
            | ((with_reducible apply wpL_cmp (b := true)); rfl; rfl; rfl; (first | rfl | assumption | (simp only [cmpB, decide_eq_true_eq, decide_eq_false_iff_not, beq_iff_eq, bne_iff_ne, ne_eq, beq_eq_false_iff_ne, bne_eq_false_iff_eq, gt_iff_lt, ge_iff_le]; omega) | (simp; omega)); rfl)
            | ((with_reducible apply wpL_cmp (b := false)); rfl; rfl; rfl; (first | rfl | assumption | (simp only [cmpB, decide_eq_true_eq, decide_eq_false_iff_not, beq_iff_eq, bne_iff_ne, ne_eq, beq_eq_false_iff_ne, bne_eq_false_iff_eq, gt_iff_lt, ge_iff_le]; omega) | (simp; omega)); rfl)
            | ((with_reducible apply wpL_cmp); rfl; rfl; rfl; rfl; rfl)
            | ((with_reducible apply wpL_arith); rfl; rfl; rfl; (exact IntWalk.i64_in _ (by (try simp only [arithI]); omega)); rfl)); (try simp only [arithI, Act.put, Act.eval, List.setIfInBounds_toArray, List.set_cons_succ, List.set_cons_zero, Array.getD_eq_getD_getElem?, List.getElem?_toArray, List.getElem?_cons_succ, List.getElem?_cons_zero, Option.getD_some])))
      refine bodyPost_ret (res1 rfl (resC A107 HH.out (by rfl) (.there .here) (by rw [List.length_map, fillL_len]))) rfl ?_
      refine ⟨?_, HH.out.below⟩
      rw [HT.out, fillL_full]
      rfl
end Go.Proofs.Ytgkfopodhikckaa

