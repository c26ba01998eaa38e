/- Bytes, rows of bytes: the operations on them. No condition. -/
import Derived.Test.YtohdkmgnnncpkaaProg
import Derived.Test.YtohdkmgnnncpkaaV
set_option linter.unusedSimpArgs false
set_option linter.unusedVariables false
namespace Go.Proofs.Ytohdkmgnnncpkaa
open Go.RowKit
theorem E81 : Elem Try.prog 81 5 1 1 := Elem.mk' (.int .u8 0) Try.underlying81 (by kernel_rfl) (by kernel_rfl) (by omega) (by omega)
theorem O5 : OneT Try.prog 5 := ⟨_, Try.underlying5, rfl⟩
/-- A slice of bytes that is read. -/
abbrev Byts (w : World) (v : Value) (l : List UInt8) : Prop := Sl w v 1 l.length (l.map byt)
theorem Byts.at {w : World} {a : Addr} {cap : Nat} {l : List UInt8} (h : Byts w (.slice (some a) l.length cap) l) {j : Nat} (hj : j < l.length) : w.cell? (a.add j) = some (byt (l.getD j 0)) :=
  h.cell j _ (by simp [hj])
section
variable {w0 : World} {S : List Nat} {bs : List (Nat × Obj)} {rows : List Row} {ops : Array Oper} {rest : List Oper} {a : Act} {dst : Option Tmp} {ty : TypeId} {pos : String} {after : Array Edge} {guard : Option (Nat × Bool)} {K : Act → Prop} {P : Program} {C : World → Prop}
theorem wpQ_idxB {t e : TypeId} {bytes : Nat} (hE : Elem P t e 1 bytes) {x i : Operand} {ad : Addr} {n c j : Nat} {q : Int} {k : IntKind} (hx : a.eval x = .slice (some ad) n c) (hi : a.eval i = .int k q) (hq : q = (j : Int)) (hj : j < n)
    (hg : Region.wanted { dst := dst, op := .indexAddr t x i, type := ty, pos := pos, after := after, guard := guard } (yielded ops a.tmps) = true)
    (h : wpQuiet P ops C K rest (a.put dst (.pointer (some (ad.add j))))) : wpQuiet P ops C K ({ dst := dst, op := .indexAddr t x i, type := ty, pos := pos, after := after, guard := guard } :: rest) a :=
  wpQ_index hE hx hi hq hj hg (by rw [Nat.mul_one]; exact h)
theorem wpQ_loadB {t : TypeId} (hA : OneT P t) {x : Operand} {ad : Addr} {v : Value} (hx : a.eval x = .pointer (some ad)) (hc : ∀ w, C w → w.cell? ad = some v)
    (hg : Region.wanted { dst := dst, op := .load t x, type := ty, pos := pos, after := after, guard := guard } (yielded ops a.tmps) = true)
    (h : wpQuiet P ops C K rest (a.put dst v)) : wpQuiet P ops C K ({ dst := dst, op := .load t x, type := ty, pos := pos, after := after, guard := guard } :: rest) a := by
  obtain ⟨d, hu, hd⟩ := hA
  exact wpQuiet_ex hg (fun w hw => ex_load_one hx hu hd (hc w hw)) h
end
def lenV : Value → Nat | .slice _ n _ => n | _ => 0
theorem byt_cell1 (l : List UInt8) : ∀ u ∈ l.map byt, u.oneCell' = true := by
  intro u hu; obtain ⟨x, _, rfl⟩ := List.mem_map.1 hu; rfl
theorem Byts.of {w : World} {v : Value} {n : Nat} {l : List UInt8} {cs : List Value} (h : Sl w v 1 n cs) (hn : n = l.length) (hc : cs = l.map byt) : Byts w v l := by subst hn hc; exact h
/-- A row of bytes of the call's own. -/
@[reducible] def rowB (ao : Option Addr) (cap : Nat) (l : List UInt8) : Row := ⟨.slice ao l.length cap, 5, 1, l.length, l.map byt⟩
def RetBy (w : World) (l : List UInt8) (e : Ending) (w' : World) : Prop :=
  ∃ ao cap, e = .returned (.slice ao l.length cap) ∧ w'.ownsRow w.heap.size 5 1 (.slice ao l.length cap) l.length (l.map byt) ∧ Below w.heap.size w w'
section
variable {w w0 : World} {S : List Nat} {bs : List (Nat × Obj)} {rows : List Row} {ops : Array Oper} {rest : List Oper} {a : Act} {dst : Option Tmp} {ty : TypeId} {pos : String} {after : Array Edge} {guard : Option (Nat × Bool)} {Q : Exit → Act → World → Prop} {P : Program}
theorem wpL_buildB (l : List UInt8) {parts : Array (Nat × Operand)} {n : Nat} (hn : n = l.length) (hp : (parts.toList.map fun p => (p.1, a.eval p.2)) = ((l.map byt).zipIdx 0).map fun p => (p.2, p.1)) (hb : n ≤ 1000) (hH : Holds w0 S bs rows w)
    (hg : Region.wanted { dst := dst, op := .buildSlice 81 n parts, type := ty, pos := pos, after := after, guard := guard } (yielded ops a.tmps) = true)
    (h : ∀ g w', Holds w0 S bs (rowB (some ⟨g, 0, none⟩) n l :: rows) w' → wpList Try.prog ops Q rest (a.put dst (.slice (some ⟨g, 0, none⟩) n n)) w') :
    wpList Try.prog ops Q ({ dst := dst, op := .buildSlice 81 n parts, type := ty, pos := pos, after := after, guard := guard } :: rest) a w := by
  subst hn
  refine wpList_buildSlice E81 (l.map byt) ?_ ?_ (by simp) hp hH (xs := l.map byt) ?_ hg h
  · intro v hv; obtain ⟨x, _, rfl⟩ := List.mem_map.1 hv; rfl
  · simp; omega
  · clear hp hb hg h
    induction l with
    | nil => rfl
    | cons x l ih => simp only [List.map_cons, List.flatMap_cons, ← ih]; rfl
theorem wpL_appendB {ao ax : Option Addr} {ca cx n m : Nat} {l l2 : List UInt8} (hH : Holds w0 S bs (⟨.slice ao n ca, 5, 1, n, l.map byt⟩ :: rows) w) (hx : Sl w (.slice ax m cx) 1 m (l2.map byt)) (hn : n = l.length) (hm : m = l2.length) (hb : l.length + l2.length ≤ 100000000) {s y : Operand} (hs : a.eval s = .slice ao n ca) (hy : a.eval y = .slice ax m cx)
    (hg : Region.wanted { dst := dst, op := .call { callee := .builtin .append, args := #[s, y], argTypes := #[81, 81] }, type := ty, pos := pos, after := after, guard := guard } (yielded ops a.tmps) = true)
    (h : ∀ ao cap w', Holds w0 S bs (rowB ao cap (l ++ l2) :: rows) w' → wpList Try.prog ops Q rest (a.put dst (.slice ao (l ++ l2).length cap)) w') :
    wpList Try.prog ops Q ({ dst := dst, op := .call { callee := .builtin .append, args := #[s, y], argTypes := #[81, 81] }, type := ty, pos := pos, after := after, guard := guard } :: rest) a w := by
  subst hn hm
  refine wpList_append E81 hH hx (byt_cell1 _) (by omega) hs hy hg fun ao cap w' h' => ?_
  have := h ao cap w' (by simpa only [rowB, List.length_append, List.map_append] using h')
  rwa [List.length_append] at this
/-- A word of 64 bits, shifted. -/
theorem wpL_shrN {t yt : TypeId} {x y : Operand} {p q : Int} {m k : Nat} (hx : a.eval x = .int .u64 p) (hy : a.eval y = .int .i64 q) (hp : p = (m : Int)) (hq : q = (k : Int)) (hk : k < 64)
    (hg : Region.wanted { dst := dst, op := .binOp .shr t x y yt, type := ty, pos := pos, after := after, guard := guard } (yielded ops a.tmps) = true)
    (h : wpList P ops Q rest (a.put dst (.int .u64 ((m / 2 ^ k : Nat) : Int))) w) : wpList P ops Q ({ dst := dst, op := .binOp .shr t x y yt, type := ty, pos := pos, after := after, guard := guard } :: rest) a w := by
  subst hp hq
  refine wpList_ex hg ?_ h
  have he : ∀ u v, eqGuard .shr t x y u v = pure () := fun _ _ => rfl
  have hr : (binOp .shr t (.int .u64 (m : Int)) (.int .i64 (k : Int))).run P w = .ok (.int .u64 ((m / 2 ^ k : Nat) : Int)) w := by
    show (Op.shift .shr .u64 (m : Int) .i64 (k : Int)).run P w = _
    have h0 : ¬ (k : Int) < 0 := by omega
    have h1 : min (k : Int).toNat IntKind.u64.bits = k := by
      have : IntKind.u64.bits = 64 := rfl
      omega
    simp only [Op.shift, h0, if_false, h1, Sem.run_pure]
    congr 2
    rw [Int.fdiv_eq_ediv_of_nonneg _ (by exact_mod_cast Nat.zero_le _)]
    norm_cast
  simp only [execOp, hx, hy, Sem.run_bind, he, Sem.run_pure, Result.andThen_ok, hr]
theorem wpL_toB {s d : TypeId} {z : TypeDesc} {x : Operand} {k : IntKind} {p : Int} {m : Nat} (hs : P.underlying s = some z) (hd : P.underlying d = some (.int .u8)) (hx : a.eval x = .int k p) (hp : p = (m : Int))
    (hg : Region.wanted { dst := dst, op := .convert s d x, type := ty, pos := pos, after := after, guard := guard } (yielded ops a.tmps) = true)
    (h : wpList P ops Q rest (a.put dst (byt (UInt8.ofNat m))) w) : wpList P ops Q ({ dst := dst, op := .convert s d x, type := ty, pos := pos, after := after, guard := guard } :: rest) a w := by
  subst hp
  refine wpList_ex hg ?_ h
  have hr : (convert s d (.int k (m : Int))).run P w = .ok (byt (UInt8.ofNat m)) w := by
    simp only [convert, Sem.run_bind, run_underlying hs, run_underlying hd, Result.andThen_ok, Conv.intToInt, Sem.run_pure]
    unfold byt
    rw [UInt8.toNat_ofNat', IntKind.wrap_u8]
    congr 2
  simp only [execOp, hx, Sem.run_bind, Sem.run_pure, Result.andThen_ok, hr]
end
theorem run_remN {P : Program} (t : TypeId) (m n : Nat) (hn : 0 < n) (hn2 : n < 1000) (hm : m < 9223372036854775807) (w : World) : (binOp .rem t (.int .i64 (m : Int)) (.int .i64 (n : Int))).run P w = .ok (.int .i64 ((m % n : Nat) : Int)) w := by
  show (Op.intDiv .rem .i64 (m : Int) (n : Int)).run P w = _
  have h0 : ¬ (n : Int) = 0 := by omega
  have h1 : ((m : Int).tmod (n : Int)) = ((m % n : Nat) : Int) := by rw [IntWalk.rem_in _ _ (by omega)]; norm_cast
  simp only [Op.intDiv, h0, if_false, Sem.run_pure, h1]
section
variable {w0 : World} {S : List Nat} {bs : List (Nat × Obj)} {rows : List Row} {ops : Array Oper} {rest : List Oper} {a : Act} {dst : Option Tmp} {ty : TypeId} {pos : String} {after : Array Edge} {guard : Option (Nat × Bool)} {K : Act → Prop} {P : Program} {C : World → Prop}
theorem wpQ_remN {t yt : TypeId} {x y : Operand} {p q : Int} {m n : Nat} (hx : a.eval x = .int .i64 p) (hy : a.eval y = .int .i64 q) (hp : p = (m : Int)) (hq : q = (n : Int)) (hn : 0 < n) (hn2 : n < 1000) (hm : m < 9223372036854775807)
    (hg : Region.wanted { dst := dst, op := .binOp .rem t x y yt, type := ty, pos := pos, after := after, guard := guard } (yielded ops a.tmps) = true)
    (h : wpQuiet P ops C K rest (a.put dst (.int .i64 ((m % n : Nat) : Int)))) : wpQuiet P ops C K ({ dst := dst, op := .binOp .rem t x y yt, type := ty, pos := pos, after := after, guard := guard } :: rest) a := by
  subst hp hq
  refine wpQuiet_ex hg (fun w _ => ?_) h
  have he : ∀ u v, eqGuard .rem t x y u v = pure () := fun _ _ => rfl
  simp only [execOp, hx, hy, Sem.run_bind, he, Sem.run_pure, Result.andThen_ok, run_remN t m n hn hn2 hm]
theorem wpL_remN {t yt : TypeId} {x y : Operand} {p q : Int} {m n : Nat} {w : World} {Q : Exit → Act → World → Prop} (hx : a.eval x = .int .i64 p) (hy : a.eval y = .int .i64 q) (hp : p = (m : Int)) (hq : q = (n : Int)) (hn : 0 < n) (hn2 : n < 1000) (hm : m < 9223372036854775807)
    (hg : Region.wanted { dst := dst, op := .binOp .rem t x y yt, type := ty, pos := pos, after := after, guard := guard } (yielded ops a.tmps) = true)
    (h : wpList P ops Q rest (a.put dst (.int .i64 ((m % n : Nat) : Int))) w) : wpList P ops Q ({ dst := dst, op := .binOp .rem t x y yt, type := ty, pos := pos, after := after, guard := guard } :: rest) a w := by
  subst hp hq
  refine wpList_ex hg ?_ h
  have he : ∀ u v, eqGuard .rem t x y u v = pure () := fun _ _ => rfl
  simp only [execOp, hx, hy, Sem.run_bind, he, Sem.run_pure, Result.andThen_ok, run_remN t m n hn hn2 hm]
end
section
variable {w w0 : World} {S : List Nat} {bs bs' : List (Nat × Obj)} {rows : List Row} {ops : Array Oper} {rest : List Oper} {a : Act} {dst : Option Tmp} {ty : TypeId} {pos : String} {after : Array Edge} {guard : Option (Nat × Bool)} {Q : Exit → Act → World → Prop} {P : Program} {C : World → Prop} {K : Act → Prop}
theorem ex_nilCheck {ρ : Operand → Value} {x : Operand} {ad : Addr} (hx : ρ x = .pointer (some ad)) (w : World) :
    (execOp ρ { dst := dst, op := .nilCheck x, type := ty, pos := pos, after := after, guard := guard }).run P w = .ok (.value (.pointer (some ad))) w := by
  simp only [execOp, hx, Sem.run_pure]
theorem wpQ_nilCheck {x : Operand} {ad : Addr} (hx : a.eval x = .pointer (some ad))
    (hg : Region.wanted { dst := dst, op := .nilCheck x, type := ty, pos := pos, after := after, guard := guard } (yielded ops a.tmps) = true)
    (h : wpQuiet P ops C K rest (a.put dst (.pointer (some ad)))) : wpQuiet P ops C K ({ dst := dst, op := .nilCheck x, type := ty, pos := pos, after := after, guard := guard } :: rest) a :=
  wpQuiet_ex hg (fun w _ => ex_nilCheck (ρ := a.eval) hx w) h
theorem wpL_nilCheck {x : Operand} {ad : Addr} (hx : a.eval x = .pointer (some ad))
    (hg : Region.wanted { dst := dst, op := .nilCheck x, type := ty, pos := pos, after := after, guard := guard } (yielded ops a.tmps) = true)
    (h : wpList P ops Q rest (a.put dst (.pointer (some ad))) w) : wpList P ops Q ({ dst := dst, op := .nilCheck x, type := ty, pos := pos, after := after, guard := guard } :: rest) a w :=
  wpList_ex hg (ex_nilCheck (ρ := a.eval) hx w) h
end
theorem Holds.oldCell {w w' : World} {bs : List (Nat × Obj)} {rows : List Row} (h : Holds w [] bs rows w') {g j : Nat} {cs : List Value} {e : TypeId} {v : Value} (hg : w.heap[g]? = some (objC cs e)) (hv : cs[j]? = some v) : w'.cell? ⟨g, j, none⟩ = some v := by
  have hlt := (Array.getElem?_eq_some_iff.1 hg).1
  simp [World.cell?, h.old g hlt (by simp), hg, objC, hv]
theorem wpL_loadAt {w : World} {ops : Array Oper} {rest : List Oper} {a : Act} {dst : Option Tmp} {ty : TypeId} {pos : String} {after : Array Edge} {guard : Option (Nat × Bool)} {Q : Exit → Act → World → Prop} {P : Program} {t : TypeId} (hA : OneT P t) {x : Operand} {ad : Addr} {v : Value} (hc : w.cell? ad = some v) (hx : a.eval x = .pointer (some ad))
    (hg : Region.wanted { dst := dst, op := .load t x, type := ty, pos := pos, after := after, guard := guard } (yielded ops a.tmps) = true)
    (h : wpList P ops Q rest (a.put dst v) w) : wpList P ops Q ({ dst := dst, op := .load t x, type := ty, pos := pos, after := after, guard := guard } :: rest) a w := by
  obtain ⟨d, hu, hd⟩ := hA
  exact wpList_ex hg (ex_load_one (ρ := a.eval) hx hu hd hc) h
end Go.Proofs.Ytohdkmgnnncpkaa
