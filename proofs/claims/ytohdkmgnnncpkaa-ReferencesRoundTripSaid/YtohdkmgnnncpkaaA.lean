/- General facts, over any program: arrays of bytes as values, slices that are read, the memory that a call owns. No condition. -/
import Derived.KernelRfl
import Derived.WalkKit
import Derived.WalkSpells
import Derived.WalkLawsBesides
import Derived.Deep.QuietTactic
import Derived.BigQuiet
import Derived.Outline
namespace Go.Proofs.Ytohdkmgnnncpkaa
open Go.RowKit

theorem hid {p : Prop} (h : p) : RowKit.Hid p := h

/-! ### Bytes and arrays of bytes -/
/-- A byte as a cell. -/
def byt (b : UInt8) : Value := .int .u8 (b.toNat : Int)
/-- An array of n bytes. -/
abbrev Arr (n : Nat) := {l : List UInt8 // l.length = n}
def Arr.cells {n : Nat} (x : Arr n) : List Value := x.1.map byt
def Arr.val {n : Nat} (x : Arr n) : Value := .agg x.cells.toArray
theorem Arr.len {n : Nat} (x : Arr n) : x.cells.length = n := by simp [Arr.cells, x.2]
def flat {n : Nat} (l : List (Arr n)) : List Value := l.flatMap Arr.cells
theorem flat_nil {n : Nat} : flat ([] : List (Arr n)) = [] := rfl
theorem flat_cons {n : Nat} (x : Arr n) (l : List (Arr n)) : flat (x :: l) = x.cells ++ flat l := rfl
theorem flat_append {n : Nat} (l m : List (Arr n)) : flat (l ++ m) = flat l ++ flat m := by simp [flat]
theorem flat_one {n : Nat} (x : Arr n) : flat [x] = x.cells := by simp [flat]
theorem flat_len {n : Nat} (l : List (Arr n)) : (flat l).length = l.length * n := by
  induction l with
  | nil => simp [flat]
  | cons x l ih => rw [flat_cons, List.length_append, Arr.len, ih, List.length_cons, Nat.add_mul]; omega
theorem flat_get {n : Nat} (l : List (Arr n)) : ∀ (k : Nat) (h : k < l.length) (j : Nat), j < n → (flat l)[k * n + j]? = (l[k]).cells[j]? := by
  induction l with
  | nil => intro k h; simp at h
  | cons x l ih =>
    intro k h j hj
    rw [flat_cons]
    cases k with
    | zero => rw [List.getElem?_append_left (by rw [Arr.len]; omega)]; simp
    | succ k =>
      rw [List.getElem?_append_right (by rw [Arr.len, Nat.add_mul]; omega), Arr.len]
      rw [show (k + 1) * n + j - n = k * n + j by rw [Nat.add_mul]; omega, ih k (by simpa using h) j hj]
      rfl
theorem flat_take {n : Nat} (l : List (Arr n)) (k : Nat) : (flat l).take (k * n) = flat (l.take k) := by
  induction l generalizing k with
  | nil => simp [flat]
  | cons x l ih =>
    cases k with
    | zero => simp [flat]
    | succ k =>
      rw [flat_cons, List.take_succ_cons, flat_cons, ← ih, List.take_append, Arr.len]
      rw [List.take_of_length_le (by rw [Arr.len, Nat.add_mul]; omega), show (k + 1) * n - n = k * n by rw [Nat.add_mul]; omega]
theorem flat_drop {n : Nat} (l : List (Arr n)) (k : Nat) : (flat l).drop (k * n) = flat (l.drop k) := by
  induction l generalizing k with
  | nil => simp [flat]
  | cons x l ih =>
    cases k with
    | zero => simp [flat]
    | succ k =>
      rw [flat_cons, List.drop_succ_cons, ← ih, List.drop_append, Arr.len]
      rw [List.drop_eq_nil_of_le (by rw [Arr.len, Nat.add_mul]; omega), List.nil_append, show (k + 1) * n - n = k * n by rw [Nat.add_mul]; omega]
theorem byt_one (b : UInt8) : (byt b).oneCell' = true := rfl
theorem cells_one {n : Nat} (x : Arr n) : ∀ u ∈ x.cells, u.oneCell' = true := by
  intro u hu; simp only [Arr.cells, List.mem_map] at hu; obtain ⟨b, _, rfl⟩ := hu; rfl
theorem flat_cell1 {n : Nat} (l : List (Arr n)) : ∀ u ∈ flat l, u.oneCell' = true := by
  intro u hu; simp only [flat, List.mem_flatMap] at hu; obtain ⟨x, _, hx⟩ := hu; exact cells_one x u hx
theorem byt_inj {a b : UInt8} (h : byt a = byt b) : a = b := by
  simp only [byt, Value.int.injEq, true_and] at h
  exact UInt8.toNat_inj.1 (by omega)
theorem Arr.ne_of {n : Nat} {x y : Arr n} (h : (!(x == y)) = true) : x ≠ y := by
  intro e; subst e; simp at h
theorem Arr.eq_of {n : Nat} {x y : Arr n} (h : (!(x == y)) = false) : x = y := by
  apply Subtype.ext; simpa using h
theorem Arr.ne_of' {n : Nat} {x y : Arr n} (h : (x == y) = false) : x ≠ y := Arr.ne_of (by rw [h]; rfl)
theorem Arr.eq_of' {n : Nat} {x y : Arr n} (h : (x == y) = true) : x = y := Arr.eq_of (by rw [h]; rfl)
def Arr.zero (n : Nat) : Arr n := ⟨List.replicate n 0, by simp⟩

/-! ### A slice that is read -/
/-- The slice value v has n elements of sz cells each, which hold cs. -/
def Sl (w : World) (v : Value) (sz n : Nat) (cs : List Value) : Prop :=
  ∃ ao cap, v = .slice ao n cap ∧ n ≤ cap ∧ cs.length = n * sz ∧ ∀ j u, cs[j]? = some u → ∃ a, ao = some a ∧ w.cell? (a.add j) = some u
theorem add_block (a : Addr) (j : Nat) : (a.add j).block = a.block := by
  unfold Addr.add; split <;> rfl
theorem Sl.keep {w w' : World} {v : Value} {sz n : Nat} {cs : List Value} (h : Sl w v sz n cs) (hk : ∀ k, k < w.heap.size → w'.heap[k]? = w.heap[k]?) : Sl w' v sz n cs := by
  obtain ⟨ao, cap, rfl, hle, hl, hc⟩ := h
  refine ⟨ao, cap, rfl, hle, hl, fun j u hu => ?_⟩
  obtain ⟨a, ha, hcell⟩ := hc j u hu
  exact ⟨a, ha, (World.cell?_of_block (hk _ (World.block_lt_of_cell? w _ hcell))).trans hcell⟩
theorem Sl.below {w w' : World} {v : Value} {sz n : Nat} {cs : List Value} (h : Sl w v sz n cs) (hb : Below w.heap.size w w') : Sl w' v sz n cs := h.keep hb.block
theorem Sl.same {w w' : World} {v : Value} {sz n : Nat} {cs : List Value} (h : Sl w v sz n cs) (hb : w'.heap = w.heap) : Sl w' v sz n cs := h.keep fun _ _ => by rw [hb]
theorem Sl.nil (w : World) (sz : Nat) : Sl w (.slice none 0 0) sz 0 [] := ⟨none, 0, rfl, Nat.le_refl _, by simp, by simp⟩
theorem Sl.of_row {w : World} {base : Nat} {e : TypeId} {sz n : Nat} {v : Value} {xs : List Value} (h : w.ownsRow base e sz v n xs) : Sl w v sz n xs := by
  rcases h.2 with ⟨rfl, rfl⟩ | ⟨g, cap, cur, rfl, hb, hg, hn, hm, hs, ht⟩
  · have : xs = [] := List.eq_nil_of_length_eq_zero (by simpa using h.1)
    subst this
    exact Sl.nil w sz
  · refine ⟨_, _, rfl, hn, h.1, fun j u hu => ⟨_, rfl, ?_⟩⟩
    have := h.cells (g := g) rfl j u hu
    exact this
/-- The elements from k on. -/
theorem Sl.cell {w : World} {a : Addr} {cap sz n : Nat} {cs : List Value} (h : Sl w (.slice (some a) n cap) sz n cs) (j : Nat) (u : Value) (hu : cs[j]? = some u) : w.cell? (a.add j) = some u := by
  obtain ⟨ao, cap', e, _, hl, hc⟩ := h
  simp only [Value.slice.injEq] at e
  obtain ⟨rfl, _, _⟩ := e
  obtain ⟨a', e, hh⟩ := hc j u hu
  cases e
  exact hh
theorem Sl.some {w : World} {v : Value} {sz n : Nat} {cs : List Value} (h : Sl w v sz n cs) (h0 : 0 < n * sz) : ∃ a cap, v = .slice (some a) n cap := by
  obtain ⟨ao, cap, rfl, _, hl, hc⟩ := h
  have : 0 < cs.length := by omega
  obtain ⟨a, rfl, _⟩ := hc 0 cs[0] (by simp [this])
  exact ⟨a, cap, rfl⟩

theorem Sl.shape {w : World} {v : Value} {sz n : Nat} {cs : List Value} (h : Sl w v sz n cs) : ∃ ao cap, v = .slice ao n cap ∧ n ≤ cap := by
  obtain ⟨ao, cap, rfl, hle, _⟩ := h
  exact ⟨ao, cap, rfl, hle⟩
theorem Sl.cap {w : World} {ao : Option Addr} {sz n m cap : Nat} {cs : List Value} (h : Sl w (.slice ao m cap) sz n cs) : m = n ∧ n ≤ cap := by
  obtain ⟨ao', cap', e, hle, _⟩ := h
  simp only [Value.slice.injEq] at e
  omega

/-! ### The memory that a call owns -/
structure Row where
  v : Value
  e : TypeId
  sz : Nat
  n : Nat
  xs : List Value
/-- Since the world w0 the blocks of w0 have not turned (but for those in S); the call's own blocks bs and rows are as said, and lie apart. -/
structure Holds (w0 : World) (S : List Nat) (bs : List (Nat × Obj)) (rows : List Row) (w : World) : Prop where
  os : w.os = w0.os
  tape : w.tape = w0.tape
  output : w.output = w0.output
  size : w0.heap.size ≤ w.heap.size
  old : ∀ k, k < w0.heap.size → k ∉ S → w.heap[k]? = w0.heap[k]?
  blk : ∀ p ∈ bs, w.heap[p.1]? = some p.2
  frs : ∀ p ∈ bs, w0.heap.size ≤ p.1 ∨ p.1 ∈ S
  row : ∀ r ∈ rows, w.ownsRow w0.heap.size r.e r.sz r.v r.n r.xs
  sep : (bs.map (·.1) ++ rows.filterMap (·.v.ownBlock)).Nodup
  inS : ∀ k ∈ S, k < w0.heap.size
theorem Holds.init (w : World) : Holds w [] [] [] w := ⟨rfl, rfl, rfl, Nat.le_refl _, fun _ _ _ => rfl, by simp, by simp, by simp, by simp, by simp⟩
theorem Holds.below {w0 w : World} {bs : List (Nat × Obj)} {rows : List Row} (h : Holds w0 [] bs rows w) : Below w0.heap.size w0 w :=
  ⟨h.os, h.tape, h.output, h.size, fun k hk => h.old k hk (by simp)⟩
section
variable {w0 w w' : World} {S : List Nat} {bs : List (Nat × Obj)} {rows : List Row}
theorem Holds.lt (h : Holds w0 S bs rows w) {p : Nat × Obj} (hp : p ∈ bs) : p.1 < w.heap.size := (Array.getElem?_eq_some_iff.1 (h.blk p hp)).1
theorem Holds.rowlt (h : Holds w0 S bs rows w) {r : Row} (hr : r ∈ rows) : ∀ k, r.v.ownBlock = some k → w0.heap.size ≤ k ∧ k < w.heap.size := (h.row r hr).lt
/-- Whatever leaves all blocks of w alone. -/
theorem Holds.grow (h : Holds w0 S bs rows w) (hb : Below w.heap.size w w') : Holds w0 S bs rows w' :=
  ⟨hb.os.trans h.os, hb.tape.trans h.tape, hb.output.trans h.output, Nat.le_trans h.size hb.size,
   fun k hk hn => (hb.block k (Nat.lt_of_lt_of_le hk h.size)).trans (h.old k hk hn),
   fun p hp => (hb.block _ (h.lt hp)).trans (h.blk p hp), h.frs,
   fun r hr => by
     refine ⟨(h.row r hr).1, ?_⟩
     rcases (h.row r hr).2 with hn | ⟨g, cap, cur, hv, hg, hh, rest⟩
     · exact .inl hn
     · exact .inr ⟨g, cap, cur, hv, hg, (hb.block g (Array.getElem?_eq_some_iff.1 hh).1).trans hh, rest⟩,
   h.sep, h.inS⟩
theorem below_drew (w : World) : Below w.heap.size w w.drew := (Below.refl _ _).drew
theorem Holds.drew (h : Holds w0 S bs rows w) : Holds w0 S bs rows w.drew := h.grow (below_drew w)
theorem below_alloc (w : World) (o : Obj) : Below w.heap.size w (w.alloc o) := (Below.refl _ _).alloc (Nat.le_refl _) o
theorem below_drewN (w : World) (n : Nat) : Below w.heap.size w (w.drewN n) := by
  exact ⟨rfl, rfl, rfl, Nat.le_refl _, fun _ _ => rfl⟩
/-- A new block of the call's own. -/
theorem Holds.alloc (h : Holds w0 S bs rows w) (o : Obj) : Holds w0 S ((w.heap.size, o) :: bs) rows (w.alloc o) := by
  have hg := h.grow (below_alloc w o)
  refine ⟨hg.os, hg.tape, hg.output, hg.size, hg.old, ?_, ?_, hg.row, ?_, h.inS⟩
  · intro p hp
    rcases List.mem_cons.1 hp with rfl | hp
    · exact heap_alloc_new w o
    · exact hg.blk p hp
  · intro p hp
    rcases List.mem_cons.1 hp with rfl | hp
    · exact .inl h.size
    · exact h.frs p hp
  · rw [List.map_cons, List.cons_append, List.nodup_cons]
    refine ⟨fun hm => ?_, h.sep⟩
    rcases List.mem_append.1 hm with hm | hm
    · obtain ⟨p, hp, e⟩ := List.mem_map.1 hm
      have := h.lt hp
      simp only at e; omega
    · obtain ⟨r, hr, e⟩ := List.mem_filterMap.1 hm
      have := (h.rowlt hr _ e).2
      simp only at this; omega
/-- Some block of the call's own turns. -/
theorem Holds.set (h : Holds w0 S bs rows w) {g : Nat} {o o' : Obj} {pre post : List (Nat × Obj)} (hbs : bs = pre ++ (g, o) :: post)
    (hw : w'.heap[g]? = some o') (hos : w'.os = w.os) (ht : w'.tape = w.tape) (hout : w'.output = w.output) (hsz : w.heap.size ≤ w'.heap.size)
    (hk : ∀ k, k < w.heap.size → k ≠ g → w'.heap[k]? = w.heap[k]?) : Holds w0 S (pre ++ (g, o') :: post) rows w' := by
  subst hbs
  have hnd := h.sep
  have hgm : (g, o) ∈ pre ++ (g, o) :: post := by simp
  have hne : ∀ p ∈ pre ++ post, p.1 ≠ g := by
    intro p hp e
    have h1 : ((pre ++ (g, o) :: post).map (·.1)).Nodup := (List.nodup_append.1 hnd).1
    rw [List.map_append, List.map_cons] at h1
    have h2 := List.nodup_append.1 h1
    rcases List.mem_append.1 hp with hp | hp
    · exact h2.2.2 p.1 (List.mem_map.2 ⟨p, hp, rfl⟩) g (by simp) e
    · exact (List.nodup_cons.1 h2.2.1).1 (by rw [← e]; exact List.mem_map.2 ⟨p, hp, rfl⟩)
  have hrne : ∀ r ∈ rows, ∀ k, r.v.ownBlock = some k → k ≠ g := by
    intro r hr k hkb e
    subst e
    exact (List.nodup_append.1 hnd).2.2 k (List.mem_map.2 ⟨_, hgm, rfl⟩) k (List.mem_filterMap.2 ⟨r, hr, hkb⟩) rfl
  refine ⟨hos.trans h.os, ht.trans h.tape, hout.trans h.output, Nat.le_trans h.size hsz, ?_, ?_, ?_, ?_, ?_, h.inS⟩
  · intro k hk' hn
    have hkg : k ≠ g := by
      intro e; subst e
      rcases h.frs _ hgm with hf | hf
      · simp only at hf; omega
      · exact hn hf
    exact (hk k (Nat.lt_of_lt_of_le hk' h.size) hkg).trans (h.old k hk' hn)
  · intro p hp
    have : p ∈ pre ++ post ∨ p = (g, o') := by
      rcases List.mem_append.1 hp with hp | hp
      · exact .inl (List.mem_append.2 (.inl hp))
      · rcases List.mem_cons.1 hp with hp | hp
        · exact .inr hp
        · exact .inl (List.mem_append.2 (.inr hp))
    rcases this with hp' | rfl
    · have hp2 : p ∈ pre ++ (g, o) :: post := by
        rcases List.mem_append.1 hp' with a | a
        · exact List.mem_append.2 (.inl a)
        · exact List.mem_append.2 (.inr (List.mem_cons_of_mem _ a))
      exact (hk _ (h.lt hp2) (hne p hp')).trans (h.blk p hp2)
    · exact hw
  · intro p hp
    rcases List.mem_append.1 hp with a | a
    · exact h.frs p (List.mem_append.2 (.inl a))
    · rcases List.mem_cons.1 a with rfl | a
      · exact h.frs (g, o) hgm
      · exact h.frs p (List.mem_append.2 (.inr (List.mem_cons_of_mem _ a)))
  · intro r hr
    refine ⟨(h.row r hr).1, ?_⟩
    rcases (h.row r hr).2 with hn | ⟨b, cap, cur, hv, hb, hh, rest⟩
    · exact .inl hn
    · refine .inr ⟨b, cap, cur, hv, hb, ?_, rest⟩
      rw [hk b (Array.getElem?_eq_some_iff.1 hh).1 (hrne r hr b (by rw [hv]; rfl))]
      exact hh
  · simpa using hnd
/-- A row that a callee handed back. -/
theorem Holds.addRow (h : Holds w0 S bs rows w) (hb : Below w.heap.size w w') {e : TypeId} {sz n : Nat} {v : Value} {xs : List Value} (hr : w'.ownsRow w.heap.size e sz v n xs) :
    Holds w0 S bs (⟨v, e, sz, n, xs⟩ :: rows) w' := by
  have hg := h.grow hb
  refine ⟨hg.os, hg.tape, hg.output, hg.size, hg.old, hg.blk, hg.frs, ?_, ?_, h.inS⟩
  · intro r hr'
    rcases List.mem_cons.1 hr' with rfl | hr'
    · refine ⟨hr.1, ?_⟩
      rcases hr.2 with hn | ⟨g, cap, cur, hv, hgb, rest⟩
      · exact .inl hn
      · exact .inr ⟨g, cap, cur, hv, Nat.le_trans h.size hgb, rest⟩
    · exact hg.row r hr'
  · cases hv : v.ownBlock with
    | none => simpa [List.filterMap_cons, hv] using h.sep
    | some g =>
      have hlt := (hr.lt g hv).1
      simp only [List.filterMap_cons, hv]
      have h1 := h.sep
      rw [List.nodup_append] at h1 ⊢
      refine ⟨h1.1, List.nodup_cons.2 ⟨fun hm => ?_, h1.2.1⟩, ?_⟩
      · obtain ⟨r, hr', e⟩ := List.mem_filterMap.1 hm
        have := (h.rowlt hr' _ e).2
        omega
      · intro a ha b hb' e
        subst e
        rcases List.mem_cons.1 hb' with rfl | hb'
        · obtain ⟨p, hp, e⟩ := List.mem_map.1 ha
          have := h.lt hp
          omega
        · exact h1.2.2 a ha a hb' rfl
/-- The first row turns, by a law that ends in 'grownBy'. -/
theorem Holds.grownRow {r : Row} (h : Holds w0 S bs (r :: rows) w) {v' : Value} {n' : Nat} {xs' : List Value} (hg : w.grownBy w' r.v.ownBlock)
    (hv : r.v.ownBlock = v'.ownBlock ∨ ∀ k, v'.ownBlock = some k → w.heap.size ≤ k) (ho : w'.ownsRow w0.heap.size r.e r.sz v' n' xs') : Holds w0 S bs (⟨v', r.e, r.sz, n', xs'⟩ :: rows) w' := by
  have hsep := h.sep
  have hrlt := h.rowlt (List.mem_cons_self)
  have hbne : ∀ p ∈ bs, r.v.ownBlock ≠ some p.1 := by
    intro p hp e
    exact (List.nodup_append.1 hsep).2.2 p.1 (List.mem_map.2 ⟨p, hp, rfl⟩) p.1 (List.mem_filterMap.2 ⟨r, by simp, e⟩) rfl
  have hrne : ∀ q ∈ rows, ∀ k, q.v.ownBlock = some k → r.v.ownBlock ≠ some k := by
    intro q hq k hk e
    have h2 := (List.nodup_append.1 hsep).2.1
    rw [List.filterMap_cons, e] at h2
    exact (List.nodup_cons.1 h2).1 (List.mem_filterMap.2 ⟨q, hq, hk⟩)
  refine ⟨hg.os.trans h.os, hg.tape.trans h.tape, hg.output.trans h.output, Nat.le_trans h.size hg.size, ?_, ?_, h.frs, ?_, ?_, h.inS⟩
  · intro k hk hn
    refine (hg.block k (Nat.lt_of_lt_of_le hk h.size) ?_).trans (h.old k hk hn)
    intro e
    have := (hrlt k e.symm).1
    omega
  · intro p hp
    exact (hg.block _ (h.lt hp) (fun e => hbne p hp e.symm)).trans (h.blk p hp)
  · intro q hq
    rcases List.mem_cons.1 hq with rfl | hq
    · exact ho
    · have hq' := h.row q (List.mem_cons_of_mem _ hq)
      refine ⟨hq'.1, ?_⟩
      rcases hq'.2 with hn | ⟨g, cap, cur, hv', hgb, hh, rest⟩
      · exact .inl hn
      · refine .inr ⟨g, cap, cur, hv', hgb, ?_, rest⟩
        rw [hg.block g (Array.getElem?_eq_some_iff.1 hh).1 (fun e => hrne q hq g (by rw [hv']; rfl) e.symm)]
        exact hh
  · have h0 : (bs.map (·.1) ++ rows.filterMap (·.v.ownBlock)).Nodup := by
      rw [List.filterMap_cons] at hsep
      split at hsep
      · exact hsep
      · rw [List.nodup_append] at hsep ⊢
        exact ⟨hsep.1, (List.nodup_cons.1 hsep.2.1).2, fun a ha b hb => hsep.2.2 a ha b (List.mem_cons_of_mem _ hb)⟩
    rw [List.filterMap_cons]
    cases hvo : v'.ownBlock with
    | none => exact h0
    | some g =>
      simp only
      rw [List.nodup_append] at h0 ⊢
      have key : (∀ p ∈ bs, p.1 ≠ g) ∧ (∀ q ∈ rows, q.v.ownBlock ≠ some g) := by
        rcases hv with e | e
        · rw [hvo] at e
          exact ⟨fun p hp e' => hbne p hp (by rw [e, e']), fun q hq e' => hrne q hq g e' e⟩
        · have := e g hvo
          refine ⟨fun p hp e' => ?_, fun q hq e' => ?_⟩
          · have := h.lt hp; omega
          · have := (h.rowlt (List.mem_cons_of_mem _ hq) g e').2; omega
      refine ⟨h0.1, List.nodup_cons.2 ⟨fun hm => ?_, h0.2.1⟩, ?_⟩
      · obtain ⟨q, hq, e⟩ := List.mem_filterMap.1 hm
        exact key.2 q hq e
      · intro a ha b hb e
        subst e
        rcases List.mem_cons.1 hb with rfl | hb
        · obtain ⟨p, hp, e⟩ := List.mem_map.1 ha
          exact key.1 p hp e
        · exact h0.2.2 a ha a hb rfl
theorem Holds.dropRow {r : Row} (h : Holds w0 S bs (r :: rows) w) : Holds w0 S bs rows w := by
  refine ⟨h.os, h.tape, h.output, h.size, h.old, h.blk, h.frs, fun q hq => h.row q (List.mem_cons_of_mem _ hq), ?_, h.inS⟩
  have hsep := h.sep
  rw [List.filterMap_cons] at hsep
  split at hsep
  · exact hsep
  · rw [List.nodup_append] at hsep ⊢
    exact ⟨hsep.1, (List.nodup_cons.1 hsep.2.1).2, fun a ha b hb => hsep.2.2 a ha b (List.mem_cons_of_mem _ hb)⟩
theorem Holds.swap {r q : Row} (h : Holds w0 S bs (r :: q :: rows) w) : Holds w0 S bs (q :: r :: rows) w := by
  refine ⟨h.os, h.tape, h.output, h.size, h.old, h.blk, h.frs, fun x hx => h.row x ?_, ?_, h.inS⟩
  · simp only [List.mem_cons] at hx ⊢
    rcases hx with a | a | a
    · exact .inr (.inl a)
    · exact .inl a
    · exact .inr (.inr a)
  · exact (List.Perm.nodup_iff (List.Perm.append_left _ (List.Perm.filterMap _ (List.Perm.swap q r rows)))).1 h.sep
theorem Holds.dropSnd {r q : Row} (h : Holds w0 S bs (r :: q :: rows) w) : Holds w0 S bs (r :: rows) w := h.swap.dropRow
theorem Holds.dropBlk {p : Nat × Obj} (h : Holds w0 S (p :: bs) rows w) : Holds w0 S bs rows w := by
  refine ⟨h.os, h.tape, h.output, h.size, h.old, fun q hq => h.blk q (List.mem_cons_of_mem _ hq), fun q hq => h.frs q (List.mem_cons_of_mem _ hq), h.row, ?_, h.inS⟩
  have hsep := h.sep
  rw [List.map_cons, List.cons_append] at hsep
  exact (List.nodup_cons.1 hsep).2
theorem Holds.dropBlks {bs' : List (Nat × Obj)} (h : Holds w0 S (bs' ++ bs) rows w) : Holds w0 S bs rows w := by
  induction bs' with
  | nil => exact h
  | cons p l ih => exact ih h.dropBlk
/-- What was read in the first world reads so still. -/
theorem Holds.sl (h : Holds w0 [] bs rows w) {v : Value} {sz n : Nat} {cs : List Value} (hs : Sl w0 v sz n cs) : Sl w v sz n cs := hs.keep fun k hk => h.old k hk (by simp)
theorem Holds.slrow (h : Holds w0 S bs rows w) {r : Row} (hr : r ∈ rows) : Sl w r.v r.sz r.n r.xs := Sl.of_row (h.row r hr)
theorem Holds.sl0 {v : Value} {e : TypeId} {sz n : Nat} {xs : List Value} (h : Holds w0 S bs (⟨v, e, sz, n, xs⟩ :: rows) w) : Sl w v sz n xs := h.slrow List.mem_cons_self
theorem Holds.sl1 {r : Row} {v : Value} {e : TypeId} {sz n : Nat} {xs : List Value} (h : Holds w0 S bs (r :: ⟨v, e, sz, n, xs⟩ :: rows) w) : Sl w v sz n xs := h.slrow (List.mem_cons_of_mem _ List.mem_cons_self)
theorem Holds.sl2 {r q : Row} {v : Value} {e : TypeId} {sz n : Nat} {xs : List Value} (h : Holds w0 S bs (r :: q :: ⟨v, e, sz, n, xs⟩ :: rows) w) : Sl w v sz n xs := h.slrow (List.mem_cons_of_mem _ (List.mem_cons_of_mem _ List.mem_cons_self))
theorem Holds.sl3 {r q s : Row} {v : Value} {e : TypeId} {sz n : Nat} {xs : List Value} (h : Holds w0 S bs (r :: q :: s :: ⟨v, e, sz, n, xs⟩ :: rows) w) : Sl w v sz n xs := h.slrow (List.mem_cons_of_mem _ (List.mem_cons_of_mem _ (List.mem_cons_of_mem _ List.mem_cons_self)))
theorem Holds.own0 {v : Value} {e : TypeId} {sz n : Nat} {xs : List Value} (h : Holds w0 S bs (⟨v, e, sz, n, xs⟩ :: rows) w) : w.ownsRow w0.heap.size e sz v n xs := h.row _ List.mem_cons_self
end
#print axioms Holds.grownRow
end Go.Proofs.Ytohdkmgnnncpkaa
