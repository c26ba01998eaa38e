/- Strings and bytes: indexed, held against each other, made of bytes. Over any program. No condition. -/
import Derived.Test.YtohdkmgnnncpkaaRH2
import Derived.Laws.IdiomStrings
import Derived.Laws.Small
import Derived.Lib.SlBytesConst
set_option linter.unusedSimpArgs false
set_option linter.unusedVariables false
namespace Go.Proofs.Ytohdkmgnnncpkaa
open Go.RowKit
theorem toList_mkS (l : List UInt8) : (ByteArray.mk l.toArray).toList = l := by simp
section
variable {P : Program} {w : World} {ρ : Operand → Value} {dst : Option Tmp} {ty : TypeId} {pos : String} {after : Array Edge} {guard : Option (Nat × Bool)}
theorem ex_indexStr {t : TypeId} {v : UInt8} (ht : P.underlying t = some .string) {x i : Operand} {l : List UInt8} {k : IntKind} {q : Int} {m : Nat} (hx : ρ x = str l) (hi : ρ i = .int k q) (hq : q = (m : Int)) (hm : m < l.length) (hv : l.getD m 0 = v) (w : World) :
    (execOp ρ { dst := dst, op := .index t x i, type := ty, pos := pos, after := after, guard := guard }).run P w = .ok (.value (byt v)) w := by
  subst hq hv
  have h0 : (if (0 : Int) ≤ (m : Int) then (⟨l.toArray⟩ : ByteArray)[(m : Int).toNat]? else none) = some (l.getD m 0) := by
    rw [if_pos (by omega), Int.toNat_natCast]
    have : (⟨l.toArray⟩ : ByteArray)[m]? = l[m]? := by
      rw [getElem?_def]
      by_cases h : m < l.length
      · have h' : m < (⟨l.toArray⟩ : ByteArray).size := h
        rw [dif_pos h']
        show some (l.toArray[m]) = _
        simp [h]
      · exact absurd hm h
    rw [this]
    simp [hm]
  simp only [execOp, hx, hi, Instr.index, asIntOf, Sem.run_bind, Sem.run_pure, Result.andThen_ok, run_underlying ht, h0]
  rfl
theorem ex_eqlStr {t yt : TypeId} (ht : P.underlying t = some .string) {x y : Operand} {l m : List UInt8} (hx : ρ x = str l) (hy : ρ y = str m) (w : World) :
    (execOp ρ { dst := dst, op := .binOp .eql t x y yt, type := ty, pos := pos, after := after, guard := guard }).run P w = .ok (.value (.bool (l == m))) w := by
  have he : (eqGuard .eql t x y (str l) (str m)).run P w = .ok () w := by simp [eqGuard, run_underlying ht]
  have hr : (binOp .eql t (str l) (str m)).run P w = .ok (.bool (l == m)) w := by
    show (Op.stringOp .eql ⟨l.toArray⟩ ⟨m.toArray⟩).run P w = _
    simp only [Op.stringOp, toList_mkS, Sem.run_pure]
  simp only [execOp, hx, hy, Sem.run_bind, he, hr, Result.andThen_ok, Sem.run_pure]
theorem ex_neqStr {t yt : TypeId} (ht : P.underlying t = some .string) {x y : Operand} {l m : List UInt8} (hx : ρ x = str l) (hy : ρ y = str m) (w : World) :
    (execOp ρ { dst := dst, op := .binOp .neq t x y yt, type := ty, pos := pos, after := after, guard := guard }).run P w = .ok (.value (.bool (!(l == m)))) w := by
  have he : (eqGuard .neq t x y (str l) (str m)).run P w = .ok () w := by simp [eqGuard, run_underlying ht]
  have hr : (binOp .neq t (str l) (str m)).run P w = .ok (.bool (!(l == m))) w := by
    show (Op.stringOp .neq ⟨l.toArray⟩ ⟨m.toArray⟩).run P w = _
    simp only [Op.stringOp, toList_mkS, Sem.run_pure]
  simp only [execOp, hx, hy, Sem.run_bind, he, hr, Result.andThen_ok, Sem.run_pure]
theorem ex_toStr {s d e : TypeId} (hs : P.underlying s = some (.slice e)) (he : P.underlying e = some (.int .u8)) (hd : P.underlying d = some .string) {x : Operand} {v : Value} {l : List UInt8} (hl : Byts w v l) (hx : ρ x = v) :
    (execOp ρ { dst := dst, op := .convert s d x, type := ty, pos := pos, after := after, guard := guard }).run P w = .ok (.value (str l)) w := by
  obtain ⟨ao, cap, rfl, hc, _, hcell⟩ := hl
  have hr : (convert s d (.slice ao l.length cap)).run P w = .ok (str l) w := by
    cases ao with
    | none =>
      have : l = [] := by
        cases l with
        | nil => rfl
        | cons y l => obtain ⟨a, ha, _⟩ := hcell 0 (byt y) rfl; cases ha
      subst this
      rw [run_convert_bytes_string w s d e _ _ _ hs he hd]
      rfl
    | some a =>
      refine run_convert_bytes_back w s d e a cap l hs he hd fun j hj => ?_
      obtain ⟨a', ha, h⟩ := hcell j (byt l[j]) (by simp [hj])
      cases ha
      exact h
  simp only [execOp, hx, Sem.run_bind, hr, Result.andThen_ok, Sem.run_pure]
theorem ex_lenStr {t : TypeId} (ht : P.underlying t = some .string) {x : Operand} {l : List UInt8} (hx : ρ x = str l) (w : World) :
    (execOp ρ { dst := dst, op := .call { callee := .builtin .len, args := #[x], argTypes := #[t] }, type := ty, pos := pos, after := after, guard := guard }).run P w = .ok (.value (.int .i64 l.length)) w := by
  rw [BigFrame.execOp_builtin, BigFrame.builtin_len]
  have hr : (Builtin.len_ #[t] ty #[str l]).run P w = .ok (.int .i64 l.length) w := by
    simp only [Builtin.len_, List.getElem?_toArray, List.getElem?_cons_zero, Sem.run_bind, run_underlying ht, Result.andThen_ok, Sem.run_pure]
    rfl
  simp only [List.map_toArray, List.map_cons, List.map_nil, hx, Sem.run_bind, hr, Result.andThen_ok, Sem.run_pure]
end
theorem bits_and (k : IntKind) (x y : Nat) (hx : x < 2 ^ k.bits) (hy : y < 2 ^ k.bits) : (BitVec.ofInt k.bits (x : Int) &&& BitVec.ofInt k.bits (y : Int)).toNat = x &&& y := by
  rw [BitVec.toNat_and, BitVec.ofInt_natCast, BitVec.ofInt_natCast, BitVec.toNat_ofNat, BitVec.toNat_ofNat, Nat.mod_eq_of_lt hx, Nat.mod_eq_of_lt hy]
section
variable {P : Program} {w : World} {ρ : Operand → Value} {dst : Option Tmp} {ty : TypeId} {pos : String} {after : Array Edge} {guard : Option (Nat × Bool)}
theorem ex_shrB {t yt : TypeId} {x y : Operand} {b : UInt8} {kk : IntKind} {q : Int} {n : Nat} {r : Nat} (hx : ρ x = byt b) (hy : ρ y = .int kk q) (hq : q = (n : Int)) (hn : n < 8) (hr : b.toNat / 2 ^ n = r) (w : World) :
    (execOp ρ { dst := dst, op := .binOp .shr t x y yt, type := ty, pos := pos, after := after, guard := guard }).run P w = .ok (.value (.int .u8 (r : Int))) w := by
  subst hq hr
  have he : ∀ u v, eqGuard .shr t x y u v = pure () := fun _ _ => rfl
  have hr : (binOp .shr t (byt b) (.int kk (n : Int))).run P w = .ok (.int .u8 ((b.toNat / 2 ^ n : Nat) : Int)) w := by
    show (Op.shift .shr .u8 (b.toNat : Int) kk (n : Int)).run P w = _
    have h0 : ¬ (n : Int) < 0 := by omega
    have h1 : min (n : Int).toNat IntKind.u8.bits = n := by
      have : IntKind.u8.bits = 8 := rfl
      omega
    simp only [Op.shift, h0, if_false, h1, Sem.run_pure]
    congr 2
    rw [Int.fdiv_eq_ediv_of_nonneg _ (by exact_mod_cast Nat.zero_le _)]
    norm_cast
  simp only [execOp, hx, hy, Sem.run_bind, he, Sem.run_pure, Result.andThen_ok, hr]
theorem ex_and {t yt : TypeId} {x y : Operand} {k : IntKind} {p q : Int} {m n : Nat} {r : Nat} (hx : ρ x = .int k p) (hy : ρ y = .int k q) (hp : p = (m : Int)) (hq : q = (n : Int)) (hm : m < 2 ^ k.bits) (hn : n < 2 ^ k.bits) (hr : m &&& n = r) (hw : k.wrap (r : Int) = (r : Int)) (w : World) :
    (execOp ρ { dst := dst, op := .binOp .and t x y yt, type := ty, pos := pos, after := after, guard := guard }).run P w = .ok (.value (.int k (r : Int))) w := by
  subst hp hq hr
  have he : ∀ u v, eqGuard .and t x y u v = pure () := fun _ _ => rfl
  have hr : (binOp .and t (.int k (m : Int)) (.int k (n : Int))).run P w = .ok (.int k ((m &&& n : Nat) : Int)) w := by
    have e : binOp .and t (.int k (m : Int)) (.int k (n : Int)) = Op.intBits .and k (m : Int) (n : Int) := by cases k <;> rfl
    rw [e]
    simp only [Op.intBits, Sem.run_pure]
    rw [bits_and k m n hm hn, hw]
  simp only [execOp, hx, hy, Sem.run_bind, he, Sem.run_pure, Result.andThen_ok, hr]
end
section
variable {P : Program} {ops : Array Oper} {rest : List Oper} {a : Act} {dst : Option Tmp} {ty : TypeId} {pos : String} {after : Array Edge} {guard : Option (Nat × Bool)} {C : World → Prop} {K : Act → Prop} {w : World} {Q : Exit → Act → World → Prop}
theorem wpL_indexStr {t : TypeId} {v : UInt8} (ht : P.underlying t = some .string) {x i : Operand} {l : List UInt8} {k : IntKind} {q : Int} {m : Nat} (hx : a.eval x = str l) (hi : a.eval i = .int k q) (hq : q = (m : Int)) (hm : m < l.length) (hv : l.getD m 0 = v)
    (hg : Region.wanted { dst := dst, op := .index t x i, type := ty, pos := pos, after := after, guard := guard } (yielded ops a.tmps) = true)
    (h : wpList P ops Q rest (a.put dst (byt v)) w) : wpList P ops Q ({ dst := dst, op := .index t x i, type := ty, pos := pos, after := after, guard := guard } :: rest) a w :=
  wpList_ex hg (ex_indexStr ht hx hi hq hm hv w) h
theorem wpQ_indexStr {t : TypeId} {v : UInt8} (ht : P.underlying t = some .string) {x i : Operand} {l : List UInt8} {k : IntKind} {q : Int} {m : Nat} (hx : a.eval x = str l) (hi : a.eval i = .int k q) (hq : q = (m : Int)) (hm : m < l.length) (hv : l.getD m 0 = v)
    (hg : Region.wanted { dst := dst, op := .index t x i, type := ty, pos := pos, after := after, guard := guard } (yielded ops a.tmps) = true)
    (h : wpQuiet P ops C K rest (a.put dst (byt v))) : wpQuiet P ops C K ({ dst := dst, op := .index t x i, type := ty, pos := pos, after := after, guard := guard } :: rest) a :=
  wpQuiet_ex hg (fun w _ => ex_indexStr ht hx hi hq hm hv w) h
theorem wpL_eqlStr {t yt : TypeId} {b : Bool} (ht : P.underlying t = some .string) {x y : Operand} {l m : List UInt8} (hx : a.eval x = str l) (hy : a.eval y = str m) (hb : (l == m) = b)
    (hg : Region.wanted { dst := dst, op := .binOp .eql t x y yt, type := ty, pos := pos, after := after, guard := guard } (yielded ops a.tmps) = true)
    (h : wpList P ops Q rest (a.put dst (.bool b)) w) : wpList P ops Q ({ dst := dst, op := .binOp .eql t x y yt, type := ty, pos := pos, after := after, guard := guard } :: rest) a w := by
  subst hb
  exact wpList_ex hg (ex_eqlStr ht hx hy w) h
theorem wpQ_eqlStr {t yt : TypeId} {b : Bool} (ht : P.underlying t = some .string) {x y : Operand} {l m : List UInt8} (hx : a.eval x = str l) (hy : a.eval y = str m) (hb : (l == m) = b)
    (hg : Region.wanted { dst := dst, op := .binOp .eql t x y yt, type := ty, pos := pos, after := after, guard := guard } (yielded ops a.tmps) = true)
    (h : wpQuiet P ops C K rest (a.put dst (.bool b))) : wpQuiet P ops C K ({ dst := dst, op := .binOp .eql t x y yt, type := ty, pos := pos, after := after, guard := guard } :: rest) a := by
  subst hb
  exact wpQuiet_ex hg (fun w _ => ex_eqlStr ht hx hy w) h
theorem wpL_neqStr {t yt : TypeId} {b : Bool} (ht : P.underlying t = some .string) {x y : Operand} {l m : List UInt8} (hx : a.eval x = str l) (hy : a.eval y = str m) (hb : (!(l == m)) = b)
    (hg : Region.wanted { dst := dst, op := .binOp .neq t x y yt, type := ty, pos := pos, after := after, guard := guard } (yielded ops a.tmps) = true)
    (h : wpList P ops Q rest (a.put dst (.bool b)) w) : wpList P ops Q ({ dst := dst, op := .binOp .neq t x y yt, type := ty, pos := pos, after := after, guard := guard } :: rest) a w := by
  subst hb
  exact wpList_ex hg (ex_neqStr ht hx hy w) h
theorem wpL_toStr {s d e : TypeId} (hs : P.underlying s = some (.slice e)) (he : P.underlying e = some (.int .u8)) (hd : P.underlying d = some .string) {x : Operand} {v : Value} {l : List UInt8} (hl : Byts w v l) (hx : a.eval x = v)
    (hg : Region.wanted { dst := dst, op := .convert s d x, type := ty, pos := pos, after := after, guard := guard } (yielded ops a.tmps) = true)
    (h : wpList P ops Q rest (a.put dst (str l)) w) : wpList P ops Q ({ dst := dst, op := .convert s d x, type := ty, pos := pos, after := after, guard := guard } :: rest) a w :=
  wpList_ex hg (ex_toStr (ρ := a.eval) hs he hd hl hx) h
theorem wpQ_toStr {s d e : TypeId} (hs : P.underlying s = some (.slice e)) (he : P.underlying e = some (.int .u8)) (hd : P.underlying d = some .string) {x : Operand} {v : Value} {l : List UInt8} (hl : ∀ w, C w → Byts w v l) (hx : a.eval x = v)
    (hg : Region.wanted { dst := dst, op := .convert s d x, type := ty, pos := pos, after := after, guard := guard } (yielded ops a.tmps) = true)
    (h : wpQuiet P ops C K rest (a.put dst (str l))) : wpQuiet P ops C K ({ dst := dst, op := .convert s d x, type := ty, pos := pos, after := after, guard := guard } :: rest) a :=
  wpQuiet_ex hg (fun w hw => ex_toStr (ρ := a.eval) hs he hd (hl w hw) hx) h
theorem wpL_lenStr {t : TypeId} (ht : P.underlying t = some .string) {x : Operand} {l : List UInt8} (hx : a.eval x = str l)
    (hg : Region.wanted { dst := dst, op := .call { callee := .builtin .len, args := #[x], argTypes := #[t] }, type := ty, pos := pos, after := after, guard := guard } (yielded ops a.tmps) = true)
    (h : wpList P ops Q rest (a.put dst (.int .i64 l.length)) w) : wpList P ops Q ({ dst := dst, op := .call { callee := .builtin .len, args := #[x], argTypes := #[t] }, type := ty, pos := pos, after := after, guard := guard } :: rest) a w :=
  wpList_ex hg (ex_lenStr (ρ := a.eval) ht hx w) h
theorem wpL_shrB {t yt : TypeId} {x y : Operand} {b : UInt8} {kk : IntKind} {q : Int} {n : Nat} {r : Nat} (hx : a.eval x = byt b) (hy : a.eval y = .int kk q) (hq : q = (n : Int)) (hn : n < 8) (hr : b.toNat / 2 ^ n = r)
    (hg : Region.wanted { dst := dst, op := .binOp .shr t x y yt, type := ty, pos := pos, after := after, guard := guard } (yielded ops a.tmps) = true)
    (h : wpList P ops Q rest (a.put dst (.int .u8 (r : Int))) w) : wpList P ops Q ({ dst := dst, op := .binOp .shr t x y yt, type := ty, pos := pos, after := after, guard := guard } :: rest) a w :=
  wpList_ex hg (ex_shrB (ρ := a.eval) hx hy hq hn hr w) h
theorem wpL_and {t yt : TypeId} {x y : Operand} {k : IntKind} {p q : Int} {m n : Nat} {r : Nat} (hx : a.eval x = .int k p) (hy : a.eval y = .int k q) (hp : p = (m : Int)) (hq : q = (n : Int)) (hm : m < 2 ^ k.bits) (hn : n < 2 ^ k.bits) (hr : m &&& n = r) (hw : k.wrap (r : Int) = (r : Int))
    (hg : Region.wanted { dst := dst, op := .binOp .and t x y yt, type := ty, pos := pos, after := after, guard := guard } (yielded ops a.tmps) = true)
    (h : wpList P ops Q rest (a.put dst (.int k (r : Int))) w) : wpList P ops Q ({ dst := dst, op := .binOp .and t x y yt, type := ty, pos := pos, after := after, guard := guard } :: rest) a w :=
  wpList_ex hg (ex_and (ρ := a.eval) hx hy hp hq hm hn hr hw w) h
end
/-- The digits. -/
def hexT : List UInt8 := [48, 49, 50, 51, 52, 53, 54, 55, 56, 57, 97, 98, 99, 100, 101, 102]
def hexC (m : Nat) : UInt8 := hexT.getD m 0
def hexOf (b : UInt8) : List UInt8 := [hexC (b.toNat / 16), hexC (b.toNat % 16)]
def hexB (l : List UInt8) : List UInt8 := l.flatMap hexOf
theorem hexB_len (l : List UInt8) : (hexB l).length = 2 * l.length := by
  induction l with
  | nil => rfl
  | cons x l ih => simp only [hexB, List.flatMap_cons, List.length_append, List.length_cons] at ih ⊢; rw [ih]; simp [hexOf]; omega
theorem hexB_snoc {l : List UInt8} {k : Nat} (h : k < l.length) : hexB (l.take (k + 1)) = hexB (l.take k) ++ [hexC (l[k].toNat / 16)] ++ [hexC (l[k].toNat % 16)] := by
  rw [← List.take_append_getElem h, hexB, List.flatMap_append]
  simp [hexB, hexOf]
end Go.Proofs.Ytohdkmgnnncpkaa
