/- Rows of arrays: lists of nodes, of identities. No condition. -/
import Derived.Test.YtohdkmgnnncpkaaK
set_option linter.unusedSimpArgs false
set_option linter.unusedVariables false
namespace Go.Proofs.Ytohdkmgnnncpkaa
open Go.RowKit
/-- A row of arrays of the call's own. -/
@[reducible] def rowA {n : Nat} (e : TypeId) (ao : Option Addr) (cap : Nat) (l : List (Arr n)) : Row := ⟨.slice ao l.length cap, e, n, l.length, flat l⟩
/-- A slice of arrays that is read. -/
abbrev Arrs {n : Nat} (w : World) (v : Value) (l : List (Arr n)) : Prop := Sl w v n l.length (flat l)
theorem Arrs.of {m : Nat} {w : World} {v : Value} {n : Nat} {l : List (Arr m)} {cs : List Value} (h : Sl w v m n cs) (hn : n = l.length) (hc : cs = flat l) : Arrs w v l := by subst hn hc; exact h
theorem Arrs.get {n : Nat} {w : World} {a : Addr} {cap : Nat} {l : List (Arr n)} (h : Arrs w (.slice (some a) l.length cap) l) (k : Nat) (hk : k < l.length) : ∀ j u, (l[k]).cells[j]? = some u → w.cell? ((a.add (k * n)).add j) = some u := by
  intro j u hu
  have hj : j < n := by
    have := (List.getElem?_eq_some_iff.1 hu).1
    rwa [Arr.len] at this
  have h1 := h.cell (k * n + j) u (by rw [flat_get l k hk j hj]; exact hu)
  have e : (a.add (k * n)).add j = a.add (k * n + j) := by
    unfold Addr.add; split <;> split <;> simp_all <;> omega
  rw [e]; exact h1
theorem Arrs.take {m : Nat} {w : World} {ao : Option Addr} {cap : Nat} {l : List (Arr m)} {j : Nat} (h : Arrs w (.slice ao l.length cap) l) (hj : j ≤ l.length) : Arrs w (.slice ao j cap) (l.take j) := by
  have h1 := Sl.take h hj
  exact Arrs.of h1 (by rw [List.length_take]; omega) (flat_take l j)
section
variable {P : Program} {w w0 : World} {S : List Nat} {bs : List (Nat × Obj)} {rows : List Row} {ops : Array Oper} {rest : List Oper} {a : Act} {dst : Option Tmp} {ty : TypeId} {pos : String} {after : Array Edge} {guard : Option (Nat × Bool)} {Q : Exit → Act → World → Prop}
theorem wpL_buildA {n : Nat} {t e : TypeId} {bytes : Nat} (hE : Elem P t e n bytes) (x : Arr n) (hn : n ≤ 16777216) {parts : Array (Nat × Operand)} (hp : (parts.toList.map fun p => (p.1, a.eval p.2)) = [(0, x.val)]) (hH : Holds w0 S bs rows w)
    (hg : Region.wanted { dst := dst, op := .buildSlice t 1 parts, type := ty, pos := pos, after := after, guard := guard } (yielded ops a.tmps) = true)
    (h : ∀ g w', Holds w0 S bs (rowA e (some ⟨g, 0, none⟩) 1 [x] :: rows) w' → wpList P ops Q rest (a.put dst (.slice (some ⟨g, 0, none⟩) 1 1)) w') :
    wpList P ops Q ({ dst := dst, op := .buildSlice t 1 parts, type := ty, pos := pos, after := after, guard := guard } :: rest) a w :=
  wpList_buildArr hE [x] hH rfl hp (by omega) hg h
theorem wpL_appendA {k : Nat} {t e : TypeId} {bytes : Nat} {ao ax : Option Addr} {ca cx n m : Nat} {l l2 r : List (Arr k)} (hE : Elem P t e k bytes) (hH : Holds w0 S bs (⟨.slice ao n ca, e, k, n, flat l⟩ :: rows) w) (hx : Sl w (.slice ax m cx) k m (flat l2)) (hr : l ++ l2 = r) (hn : n = l.length) (hm : m = l2.length) (hb : (l.length + l2.length) * bytes ≤ 140737488355328) {s y : Operand} (hs : a.eval s = .slice ao n ca) (hy : a.eval y = .slice ax m cx)
    (hg : Region.wanted { dst := dst, op := .call { callee := .builtin .append, args := #[s, y], argTypes := #[t, t] }, type := ty, pos := pos, after := after, guard := guard } (yielded ops a.tmps) = true)
    (h : ∀ ao cap w', Holds w0 S bs (rowA e ao cap r :: rows) w' → wpList P ops Q rest (a.put dst (.slice ao r.length cap)) w') :
    wpList P ops Q ({ dst := dst, op := .call { callee := .builtin .append, args := #[s, y], argTypes := #[t, t] }, type := ty, pos := pos, after := after, guard := guard } :: rest) a w := by
  subst hn hm hr
  refine wpList_append hE hH hx (flat_cell1 _) hb hs hy hg fun ao cap w' h' => ?_
  have := h ao cap w' (by simpa only [rowA, List.length_append, flat_append] using h')
  rwa [List.length_append] at this
end
end Go.Proofs.Ytohdkmgnnncpkaa
