/- Words of 32 bits as values: the operations on them; variables of the call's own of several cells. Over any program. No condition. -/
import Derived.Test.YtohdkmgnnncpkaaG
import Derived.Test.YtohdkmgnnncpkaaT
set_option linter.unusedSimpArgs false
set_option linter.unusedVariables false
namespace Go.Proofs.Ytohdkmgnnncpkaa
open Go.RowKit
abbrev W32 := BitVec 32
/-- A word as a cell. -/
def wrd (x : W32) : Value := .int .u32 (x.toNat : Int)
theorem wrap32 (n : Nat) : IntKind.u32.wrap (n : Int) = ((n % 4294967296 : Nat) : Int) := by rw [IntKind.wrap_u32]; omega
theorem wrd_of (x : W32) (n : Nat) (h : n % 4294967296 = x.toNat) : Value.int .u32 (IntKind.u32.wrap (n : Int)) = wrd x := by
  unfold wrd; rw [wrap32, h]
theorem ofInt_toNat (x : W32) : BitVec.ofInt 32 (x.toNat : Int) = x := by
  rw [BitVec.ofInt_natCast]; exact (BitVec.ofNat_toNat 32 x).trans (BitVec.setWidth_eq x)
def isW : BinOp → Bool | .xor | .and | .or | .add => true | _ => false
@[reducible] def wopF : BinOp → W32 → W32 → W32
  | .xor, x, y => x ^^^ y
  | .and, x, y => x &&& y
  | .or, x, y => x ||| y
  | .add, x, y => x + y
  | _, x, _ => x
section
variable {P : Program}
theorem run_wop {op : BinOp} (ho : isW op = true) (t : TypeId) (x y : W32) (w : World) : (binOp op t (wrd x) (wrd y)).run P w = .ok (wrd (wopF op x y)) w := by
  have hb : ∀ r : W32, Value.int .u32 (IntKind.u32.wrap (r.toNat : Int)) = wrd r := fun r => wrd_of r _ (Nat.mod_eq_of_lt r.isLt)
  have ha : Value.int .u32 (IntKind.u32.wrap ((x.toNat : Int) + (y.toNat : Int))) = wrd (x + y) := by
    have := wrd_of (x + y) (x.toNat + y.toNat) (by rw [BitVec.toNat_add])
    rw [← this]; simp
  have hx : BitVec.ofInt IntKind.u32.bits (x.toNat : Int) = x := ofInt_toNat x
  have hy : BitVec.ofInt IntKind.u32.bits (y.toNat : Int) = y := ofInt_toNat y
  cases op <;> simp only [isW, Bool.false_eq_true] at ho
  · show (Op.intArith .add .u32 (x.toNat : Int) (y.toNat : Int)).run P w = _
    simp only [Op.intArith, Sem.run_pure, ha]
  · show (Op.intBits .and .u32 (x.toNat : Int) (y.toNat : Int)).run P w = _
    simp only [Op.intBits, Sem.run_pure, hx, hy]
    exact congrArg (Result.ok · w) (hb (x &&& y))
  · show (Op.intBits .or .u32 (x.toNat : Int) (y.toNat : Int)).run P w = _
    simp only [Op.intBits, Sem.run_pure, hx, hy]
    exact congrArg (Result.ok · w) (hb (x ||| y))
  · show (Op.intBits .xor .u32 (x.toNat : Int) (y.toNat : Int)).run P w = _
    simp only [Op.intBits, Sem.run_pure, hx, hy]
    exact congrArg (Result.ok · w) (hb (x ^^^ y))
theorem run_wshl (t : TypeId) (x : W32) (k : IntKind) (n : Int) (hn : 0 ≤ n ∧ n < 32) (w : World) : (binOp .shl t (wrd x) (.int k n)).run P w = .ok (wrd (x <<< n.toNat)) w := by
  show (Op.shift .shl .u32 (x.toNat : Int) k n).run P w = _
  have h0 : ¬ n < 0 := by omega
  have h1 : min n.toNat IntKind.u32.bits = n.toNat := by
    have : IntKind.u32.bits = 32 := rfl
    omega
  simp only [Op.shift, h0, if_false, h1, Sem.run_pure]
  have := wrd_of (x <<< n.toNat) (x.toNat * 2 ^ n.toNat) (by rw [BitVec.toNat_shiftLeft, Nat.shiftLeft_eq])
  rw [← this]
  simp
theorem run_wshr (t : TypeId) (x : W32) (k : IntKind) (n : Int) (hn : 0 ≤ n ∧ n < 32) (w : World) : (binOp .shr t (wrd x) (.int k n)).run P w = .ok (wrd (x >>> n.toNat)) w := by
  show (Op.shift .shr .u32 (x.toNat : Int) k n).run P w = _
  have h0 : ¬ n < 0 := by omega
  have h1 : min n.toNat IntKind.u32.bits = n.toNat := by
    have : IntKind.u32.bits = 32 := rfl
    omega
  simp only [Op.shift, h0, if_false, h1, Sem.run_pure]
  unfold wrd
  rw [BitVec.toNat_ushiftRight, Nat.shiftRight_eq_div_pow]
  congr 2
  rw [Int.fdiv_eq_ediv_of_nonneg _ (by exact_mod_cast Nat.zero_le _)]
  norm_cast
theorem run_wnot (x : W32) (w : World) : (Op.unary .xor (wrd x)).run P w = .ok (wrd (~~~x)) w := by
  show (Op.intBits .xor .u32 (if IntKind.u32.signed then -1 else IntKind.u32.max) (x.toNat : Int)).run P w = _
  have hx : BitVec.ofInt IntKind.u32.bits (x.toNat : Int) = x := ofInt_toNat x
  have hm : BitVec.ofInt IntKind.u32.bits (if IntKind.u32.signed = true then -1 else IntKind.u32.max) = BitVec.allOnes 32 := rfl
  have hb : ∀ r : W32, Value.int .u32 (IntKind.u32.wrap (r.toNat : Int)) = wrd r := fun r => wrd_of r _ (Nat.mod_eq_of_lt r.isLt)
  simp only [Op.intBits, Sem.run_pure, hx, hm]
  have : BitVec.allOnes 32 ^^^ x = ~~~x := by rw [BitVec.xor_comm, BitVec.xor_allOnes]
  have h2 := hb (BitVec.allOnes 32 ^^^ x)
  rw [this] at h2
  exact congrArg (Result.ok · w) (show Value.int .u32 (IntKind.u32.wrap ((BitVec.allOnes 32 ^^^ x).toNat : Int)) = wrd (~~~x) by rw [this]; exact h2)
/-- A byte as a word. -/
def b2w (b : UInt8) : W32 := BitVec.ofNat 32 b.toNat
def w2b (x : W32) : UInt8 := UInt8.ofNat x.toNat
theorem run_b2w {s d : TypeId} {z : TypeDesc} (hs : P.underlying s = some z) (hd : P.underlying d = some (.int .u32)) (b : UInt8) (w : World) : (convert s d (byt b)).run P w = .ok (wrd (b2w b)) w := by
  have hb := b.toNat_lt
  have : IntKind.u32.wrap (b.toNat : Int) = (b.toNat : Int) := IntWalk.u32_in _ (by omega)
  simp only [convert, byt, Sem.run_bind, run_underlying hs, run_underlying hd, Result.andThen_ok, Conv.intToInt, Sem.run_pure, this]
  unfold wrd b2w
  rw [BitVec.toNat_ofNat, Nat.mod_eq_of_lt (by omega)]
theorem run_w2b {s d : TypeId} {z : TypeDesc} (hs : P.underlying s = some z) (hd : P.underlying d = some (.int .u8)) (x : W32) (w : World) : (convert s d (wrd x)).run P w = .ok (byt (w2b x)) w := by
  simp only [convert, wrd, Sem.run_bind, run_underlying hs, run_underlying hd, Result.andThen_ok, Conv.intToInt, Sem.run_pure]
  unfold byt w2b
  rw [UInt8.toNat_ofNat', IntKind.wrap_u8]
  congr 2
/-! ### addresses in a variable -/
/-- Field f of the struct t lies at off, and takes place. -/
def FieldT (P : Program) (t : TypeId) (f off : Nat) : Prop := ∃ fs fd m, P.underlying t = some (.struct fs) ∧ fs[f]? = some fd ∧ fd.offset = off ∧ (P.info? fd.type).map (·.size) = some (m + 1)
theorem ex_fieldAddr {ρ : Operand → Value} {dst : Option Tmp} {ty : TypeId} {pos : String} {after : Array Edge} {guard : Option (Nat × Bool)} {t : TypeId} {f off : Nat} {x : Operand} {g j : Nat} (hF : FieldT P t f off) (hx : ρ x = .pointer (some ⟨g, j, none⟩)) (w : World) :
    (execOp ρ { dst := dst, op := .fieldAddr t x f, type := ty, pos := pos, after := after, guard := guard }).run P w = .ok (.value (.pointer (some ⟨g, j + off, none⟩))) w := by
  obtain ⟨fs, fd, m, ht, hf, rfl, hsz⟩ := hF
  have hadd : (⟨g, j, none⟩ : Addr).add fd.offset = ⟨g, j + fd.offset, none⟩ := by unfold Addr.add; split <;> simp_all
  have h2 : ∀ w, (sizeOf fd.type).run P w = .ok (m + 1) w := run_sizeOf hsz
  simp [execOp, hx, Instr.fieldAt, Instr.sureAddr, run_underlying ht, hf, fieldPlace, h2, hadd]
theorem ex_indexVar {ρ : Operand → Value} {dst : Option Tmp} {ty : TypeId} {pos : String} {after : Array Edge} {guard : Option (Nat × Bool)} {t e : TypeId} {n : Nat} {x i : Operand} {g j m : Nat} {q : Int} {k : IntKind} (ht : P.underlying t = some (.array n e)) (he : (P.info? e).map (·.size) = some 1) (hx : ρ x = .pointer (some ⟨g, j, none⟩))
    (hi : ρ i = .int k q) (hq : q = (m : Int)) (hm : m < n) (w : World) :
    (execOp ρ { dst := dst, op := .indexAddr t x i, type := ty, pos := pos, after := after, guard := guard }).run P w = .ok (.value (.pointer (some ⟨g, j + m, none⟩))) w := by
  subst hq
  have hadd : (⟨g, j, none⟩ : Addr).add m = ⟨g, j + m, none⟩ := by unfold Addr.add; split <;> simp_all
  have hc : (0 : Int) ≤ (m : Int) ∧ (m : Int) < n := by omega
  simp only [execOp, hx, hi, Instr.indexAt, asIntOf, Sem.run_bind, Sem.run_pure, Result.andThen_ok, run_underlying ht, Instr.sureAddr, run_sizeOf he, hc, and_self, if_true, Int.toNat_natCast, Nat.mul_one, hadd]
theorem ex_indexV {ρ : Operand → Value} {dst : Option Tmp} {ty : TypeId} {pos : String} {after : Array Edge} {guard : Option (Nat × Bool)} {t e : TypeId} {d : TypeDesc} {n : Nat} {x i : Operand} {cs : Array Value} {m : Nat} {q : Int} {k : IntKind} {v : Value} (ht : P.underlying t = some (.array n e)) (hd : P.underlying e = some d) (hag : aggD d = false) (he : (P.info? e).map (·.size) = some 1) (hx : ρ x = .agg cs)
    (hi : ρ i = .int k q) (hq : q = (m : Int)) (hm : m < n) (hv : cs[m]? = some v) (w : World) :
    (execOp ρ { dst := dst, op := .index t x i, type := ty, pos := pos, after := after, guard := guard }).run P w = .ok (.value v) w := by
  subst hq
  have hc : (0 : Int) ≤ (m : Int) ∧ (m : Int) < n := by omega
  have h1 : (isAgg e).run P w = .ok false w := by
    simp only [isAgg, Sem.run_bind, run_underlying hd, Result.andThen_ok]
    cases d <;> simp_all [aggD]
  simp only [execOp, hx, hi, Instr.index, asIntOf, Sem.run_bind, Sem.run_pure, Result.andThen_ok, run_underlying ht, run_sizeOf he, hc, and_self, if_true, Int.toNat_natCast, Nat.mul_one, part, h1, Bool.false_eq_true, if_false, hv]
theorem ex_wop {ρ : Operand → Value} {dst : Option Tmp} {ty : TypeId} {pos : String} {after : Array Edge} {guard : Option (Nat × Bool)} {op : BinOp} {t yt : TypeId} {x y : Operand} {p q : W32} (ho : isW op = true) (hx : ρ x = wrd p) (hy : ρ y = wrd q) (w : World) :
    (execOp ρ { dst := dst, op := .binOp op t x y yt, type := ty, pos := pos, after := after, guard := guard }).run P w = .ok (.value (wrd (wopF op p q))) w := by
  have he : ∀ u v, eqGuard op t x y u v = pure () := by intro u v; cases op <;> simp [isW] at ho <;> rfl
  simp only [execOp, hx, hy, Sem.run_bind, he, Sem.run_pure, Result.andThen_ok, run_wop ho]
theorem ex_wshl {ρ : Operand → Value} {dst : Option Tmp} {ty : TypeId} {pos : String} {after : Array Edge} {guard : Option (Nat × Bool)} {t yt : TypeId} {x y : Operand} {p : W32} {k : IntKind} {n : Int} (hx : ρ x = wrd p) (hy : ρ y = .int k n) (hn : 0 ≤ n ∧ n < 32) (w : World) :
    (execOp ρ { dst := dst, op := .binOp .shl t x y yt, type := ty, pos := pos, after := after, guard := guard }).run P w = .ok (.value (wrd (p <<< n.toNat))) w := by
  have he : ∀ u v, eqGuard .shl t x y u v = pure () := fun _ _ => rfl
  simp only [execOp, hx, hy, Sem.run_bind, he, Sem.run_pure, Result.andThen_ok, run_wshl t p k n hn]
theorem ex_wshr {ρ : Operand → Value} {dst : Option Tmp} {ty : TypeId} {pos : String} {after : Array Edge} {guard : Option (Nat × Bool)} {t yt : TypeId} {x y : Operand} {p : W32} {k : IntKind} {n : Int} (hx : ρ x = wrd p) (hy : ρ y = .int k n) (hn : 0 ≤ n ∧ n < 32) (w : World) :
    (execOp ρ { dst := dst, op := .binOp .shr t x y yt, type := ty, pos := pos, after := after, guard := guard }).run P w = .ok (.value (wrd (p >>> n.toNat))) w := by
  have he : ∀ u v, eqGuard .shr t x y u v = pure () := fun _ _ => rfl
  simp only [execOp, hx, hy, Sem.run_bind, he, Sem.run_pure, Result.andThen_ok, run_wshr t p k n hn]
theorem ex_wnot {ρ : Operand → Value} {dst : Option Tmp} {ty : TypeId} {pos : String} {after : Array Edge} {guard : Option (Nat × Bool)} {t : TypeId} {x : Operand} {p : W32} (hx : ρ x = wrd p) (w : World) :
    (execOp ρ { dst := dst, op := .unOp .xor t x, type := ty, pos := pos, after := after, guard := guard }).run P w = .ok (.value (wrd (~~~p))) w := by
  simp only [execOp, hx, Sem.run_bind, Sem.run_pure, Result.andThen_ok, run_wnot]
theorem ex_b2w {ρ : Operand → Value} {dst : Option Tmp} {ty : TypeId} {pos : String} {after : Array Edge} {guard : Option (Nat × Bool)} {s d : TypeId} {z : TypeDesc} {x : Operand} {b : UInt8} (hs : P.underlying s = some z) (hd : P.underlying d = some (.int .u32)) (hx : ρ x = byt b) (w : World) :
    (execOp ρ { dst := dst, op := .convert s d x, type := ty, pos := pos, after := after, guard := guard }).run P w = .ok (.value (wrd (b2w b))) w := by
  simp only [execOp, hx, Sem.run_bind, Sem.run_pure, Result.andThen_ok, run_b2w hs hd]
theorem ex_w2b {ρ : Operand → Value} {dst : Option Tmp} {ty : TypeId} {pos : String} {after : Array Edge} {guard : Option (Nat × Bool)} {s d : TypeId} {z : TypeDesc} {x : Operand} {p : W32} (hs : P.underlying s = some z) (hd : P.underlying d = some (.int .u8)) (hx : ρ x = wrd p) (w : World) :
    (execOp ρ { dst := dst, op := .convert s d x, type := ty, pos := pos, after := after, guard := guard }).run P w = .ok (.value (byt (w2b p))) w := by
  simp only [execOp, hx, Sem.run_bind, Sem.run_pure, Result.andThen_ok, run_w2b hs hd]
section
variable {ops : Array Oper} {rest : List Oper} {a : Act} {dst : Option Tmp} {ty : TypeId} {pos : String} {after : Array Edge} {guard : Option (Nat × Bool)} {C : World → Prop} {K : Act → Prop} {w : World} {Q : Exit → Act → World → Prop}
theorem wpQ_wop {op : BinOp} {t yt : TypeId} {x y : Operand} {p q : W32} (ho : isW op = true) (hx : a.eval x = wrd p) (hy : a.eval y = wrd q)
    (hg : Region.wanted { dst := dst, op := .binOp op t x y yt, type := ty, pos := pos, after := after, guard := guard } (yielded ops a.tmps) = true)
    (h : wpQuiet P ops C K rest (a.put dst (wrd (wopF op p q)))) : wpQuiet P ops C K ({ dst := dst, op := .binOp op t x y yt, type := ty, pos := pos, after := after, guard := guard } :: rest) a :=
  wpQuiet_ex hg (fun w _ => ex_wop (ρ := a.eval) ho hx hy w) h
theorem wpL_wop {op : BinOp} {t yt : TypeId} {x y : Operand} {p q : W32} (ho : isW op = true) (hx : a.eval x = wrd p) (hy : a.eval y = wrd q)
    (hg : Region.wanted { dst := dst, op := .binOp op t x y yt, type := ty, pos := pos, after := after, guard := guard } (yielded ops a.tmps) = true)
    (h : wpList P ops Q rest (a.put dst (wrd (wopF op p q))) w) : wpList P ops Q ({ dst := dst, op := .binOp op t x y yt, type := ty, pos := pos, after := after, guard := guard } :: rest) a w :=
  wpList_ex hg (ex_wop (ρ := a.eval) ho hx hy w) h
theorem wpQ_wshl {t yt : TypeId} {x y : Operand} {p : W32} {k : IntKind} {n : Int} (hx : a.eval x = wrd p) (hy : a.eval y = .int k n) (hn : 0 ≤ n ∧ n < 32)
    (hg : Region.wanted { dst := dst, op := .binOp .shl t x y yt, type := ty, pos := pos, after := after, guard := guard } (yielded ops a.tmps) = true)
    (h : wpQuiet P ops C K rest (a.put dst (wrd (p <<< n.toNat)))) : wpQuiet P ops C K ({ dst := dst, op := .binOp .shl t x y yt, type := ty, pos := pos, after := after, guard := guard } :: rest) a :=
  wpQuiet_ex hg (fun w _ => ex_wshl (ρ := a.eval) hx hy hn w) h
theorem wpL_wshl {t yt : TypeId} {x y : Operand} {p : W32} {k : IntKind} {n : Int} (hx : a.eval x = wrd p) (hy : a.eval y = .int k n) (hn : 0 ≤ n ∧ n < 32)
    (hg : Region.wanted { dst := dst, op := .binOp .shl t x y yt, type := ty, pos := pos, after := after, guard := guard } (yielded ops a.tmps) = true)
    (h : wpList P ops Q rest (a.put dst (wrd (p <<< n.toNat))) w) : wpList P ops Q ({ dst := dst, op := .binOp .shl t x y yt, type := ty, pos := pos, after := after, guard := guard } :: rest) a w :=
  wpList_ex hg (ex_wshl (ρ := a.eval) hx hy hn w) h
theorem wpQ_wshr {t yt : TypeId} {x y : Operand} {p : W32} {k : IntKind} {n : Int} (hx : a.eval x = wrd p) (hy : a.eval y = .int k n) (hn : 0 ≤ n ∧ n < 32)
    (hg : Region.wanted { dst := dst, op := .binOp .shr t x y yt, type := ty, pos := pos, after := after, guard := guard } (yielded ops a.tmps) = true)
    (h : wpQuiet P ops C K rest (a.put dst (wrd (p >>> n.toNat)))) : wpQuiet P ops C K ({ dst := dst, op := .binOp .shr t x y yt, type := ty, pos := pos, after := after, guard := guard } :: rest) a :=
  wpQuiet_ex hg (fun w _ => ex_wshr (ρ := a.eval) hx hy hn w) h
theorem wpL_wshr {t yt : TypeId} {x y : Operand} {p : W32} {k : IntKind} {n : Int} (hx : a.eval x = wrd p) (hy : a.eval y = .int k n) (hn : 0 ≤ n ∧ n < 32)
    (hg : Region.wanted { dst := dst, op := .binOp .shr t x y yt, type := ty, pos := pos, after := after, guard := guard } (yielded ops a.tmps) = true)
    (h : wpList P ops Q rest (a.put dst (wrd (p >>> n.toNat))) w) : wpList P ops Q ({ dst := dst, op := .binOp .shr t x y yt, type := ty, pos := pos, after := after, guard := guard } :: rest) a w :=
  wpList_ex hg (ex_wshr (ρ := a.eval) hx hy hn w) h
theorem wpQ_wnot {t : TypeId} {x : Operand} {p : W32} (hx : a.eval x = wrd p)
    (hg : Region.wanted { dst := dst, op := .unOp .xor t x, type := ty, pos := pos, after := after, guard := guard } (yielded ops a.tmps) = true)
    (h : wpQuiet P ops C K rest (a.put dst (wrd (~~~p)))) : wpQuiet P ops C K ({ dst := dst, op := .unOp .xor t x, type := ty, pos := pos, after := after, guard := guard } :: rest) a :=
  wpQuiet_ex hg (fun w _ => ex_wnot (ρ := a.eval) hx w) h
theorem wpL_wnot {t : TypeId} {x : Operand} {p : W32} (hx : a.eval x = wrd p)
    (hg : Region.wanted { dst := dst, op := .unOp .xor t x, type := ty, pos := pos, after := after, guard := guard } (yielded ops a.tmps) = true)
    (h : wpList P ops Q rest (a.put dst (wrd (~~~p))) w) : wpList P ops Q ({ dst := dst, op := .unOp .xor t x, type := ty, pos := pos, after := after, guard := guard } :: rest) a w :=
  wpList_ex hg (ex_wnot (ρ := a.eval) hx w) h
theorem wpQ_b2w {s d : TypeId} {z : TypeDesc} {x : Operand} {b : UInt8} (hs : P.underlying s = some z) (hd : P.underlying d = some (.int .u32)) (hx : a.eval x = byt b)
    (hg : Region.wanted { dst := dst, op := .convert s d x, type := ty, pos := pos, after := after, guard := guard } (yielded ops a.tmps) = true)
    (h : wpQuiet P ops C K rest (a.put dst (wrd (b2w b)))) : wpQuiet P ops C K ({ dst := dst, op := .convert s d x, type := ty, pos := pos, after := after, guard := guard } :: rest) a :=
  wpQuiet_ex hg (fun w _ => ex_b2w (ρ := a.eval) hs hd hx w) h
theorem wpL_b2w {s d : TypeId} {z : TypeDesc} {x : Operand} {b : UInt8} (hs : P.underlying s = some z) (hd : P.underlying d = some (.int .u32)) (hx : a.eval x = byt b)
    (hg : Region.wanted { dst := dst, op := .convert s d x, type := ty, pos := pos, after := after, guard := guard } (yielded ops a.tmps) = true)
    (h : wpList P ops Q rest (a.put dst (wrd (b2w b))) w) : wpList P ops Q ({ dst := dst, op := .convert s d x, type := ty, pos := pos, after := after, guard := guard } :: rest) a w :=
  wpList_ex hg (ex_b2w (ρ := a.eval) hs hd hx w) h
theorem wpQ_w2b {s d : TypeId} {z : TypeDesc} {x : Operand} {p : W32} (hs : P.underlying s = some z) (hd : P.underlying d = some (.int .u8)) (hx : a.eval x = wrd p)
    (hg : Region.wanted { dst := dst, op := .convert s d x, type := ty, pos := pos, after := after, guard := guard } (yielded ops a.tmps) = true)
    (h : wpQuiet P ops C K rest (a.put dst (byt (w2b p)))) : wpQuiet P ops C K ({ dst := dst, op := .convert s d x, type := ty, pos := pos, after := after, guard := guard } :: rest) a :=
  wpQuiet_ex hg (fun w _ => ex_w2b (ρ := a.eval) hs hd hx w) h
theorem wpL_w2b {s d : TypeId} {z : TypeDesc} {x : Operand} {p : W32} (hs : P.underlying s = some z) (hd : P.underlying d = some (.int .u8)) (hx : a.eval x = wrd p)
    (hg : Region.wanted { dst := dst, op := .convert s d x, type := ty, pos := pos, after := after, guard := guard } (yielded ops a.tmps) = true)
    (h : wpList P ops Q rest (a.put dst (byt (w2b p))) w) : wpList P ops Q ({ dst := dst, op := .convert s d x, type := ty, pos := pos, after := after, guard := guard } :: rest) a w :=
  wpList_ex hg (ex_w2b (ρ := a.eval) hs hd hx w) h
theorem wpQ_fieldAddr {t : TypeId} {f off : Nat} {x : Operand} {g j : Nat} (hF : FieldT P t f off) (hx : a.eval x = .pointer (some ⟨g, j, none⟩))
    (hg : Region.wanted { dst := dst, op := .fieldAddr t x f, type := ty, pos := pos, after := after, guard := guard } (yielded ops a.tmps) = true)
    (h : wpQuiet P ops C K rest (a.put dst (.pointer (some ⟨g, j + off, none⟩)))) : wpQuiet P ops C K ({ dst := dst, op := .fieldAddr t x f, type := ty, pos := pos, after := after, guard := guard } :: rest) a :=
  wpQuiet_ex hg (fun w _ => ex_fieldAddr (ρ := a.eval) hF hx w) h
theorem wpL_fieldAddr {t : TypeId} {f off : Nat} {x : Operand} {g j : Nat} (hF : FieldT P t f off) (hx : a.eval x = .pointer (some ⟨g, j, none⟩))
    (hg : Region.wanted { dst := dst, op := .fieldAddr t x f, type := ty, pos := pos, after := after, guard := guard } (yielded ops a.tmps) = true)
    (h : wpList P ops Q rest (a.put dst (.pointer (some ⟨g, j + off, none⟩))) w) : wpList P ops Q ({ dst := dst, op := .fieldAddr t x f, type := ty, pos := pos, after := after, guard := guard } :: rest) a w :=
  wpList_ex hg (ex_fieldAddr (ρ := a.eval) hF hx w) h
theorem wpQ_indexVar {t e : TypeId} {n : Nat} {x i : Operand} {g j m : Nat} {q : Int} {k : IntKind} (ht : P.underlying t = some (.array n e)) (he : (P.info? e).map (·.size) = some 1) (hx : a.eval x = .pointer (some ⟨g, j, none⟩)) (hi : a.eval i = .int k q) (hq : q = (m : Int)) (hm : m < n)
    (hg : Region.wanted { dst := dst, op := .indexAddr t x i, type := ty, pos := pos, after := after, guard := guard } (yielded ops a.tmps) = true)
    (h : wpQuiet P ops C K rest (a.put dst (.pointer (some ⟨g, j + m, none⟩)))) : wpQuiet P ops C K ({ dst := dst, op := .indexAddr t x i, type := ty, pos := pos, after := after, guard := guard } :: rest) a :=
  wpQuiet_ex hg (fun w _ => ex_indexVar (ρ := a.eval) ht he hx hi hq hm w) h
theorem wpL_indexVar {t e : TypeId} {n : Nat} {x i : Operand} {g j m : Nat} {q : Int} {k : IntKind} (ht : P.underlying t = some (.array n e)) (he : (P.info? e).map (·.size) = some 1) (hx : a.eval x = .pointer (some ⟨g, j, none⟩)) (hi : a.eval i = .int k q) (hq : q = (m : Int)) (hm : m < n)
    (hg : Region.wanted { dst := dst, op := .indexAddr t x i, type := ty, pos := pos, after := after, guard := guard } (yielded ops a.tmps) = true)
    (h : wpList P ops Q rest (a.put dst (.pointer (some ⟨g, j + m, none⟩))) w) : wpList P ops Q ({ dst := dst, op := .indexAddr t x i, type := ty, pos := pos, after := after, guard := guard } :: rest) a w :=
  wpList_ex hg (ex_indexVar (ρ := a.eval) ht he hx hi hq hm w) h
theorem wpQ_indexV {t e : TypeId} {d : TypeDesc} {n : Nat} {x i : Operand} {cs : Array Value} {m : Nat} {q : Int} {k : IntKind} {v : Value} (ht : P.underlying t = some (.array n e)) (hd : P.underlying e = some d) (hag : aggD d = false) (he : (P.info? e).map (·.size) = some 1) (hx : a.eval x = .agg cs) (hi : a.eval i = .int k q) (hq : q = (m : Int)) (hm : m < n) (hv : cs[m]? = some v)
    (hg : Region.wanted { dst := dst, op := .index t x i, type := ty, pos := pos, after := after, guard := guard } (yielded ops a.tmps) = true)
    (h : wpQuiet P ops C K rest (a.put dst (v))) : wpQuiet P ops C K ({ dst := dst, op := .index t x i, type := ty, pos := pos, after := after, guard := guard } :: rest) a :=
  wpQuiet_ex hg (fun w _ => ex_indexV (ρ := a.eval) ht hd hag he hx hi hq hm hv w) h
theorem wpL_indexV {t e : TypeId} {d : TypeDesc} {n : Nat} {x i : Operand} {cs : Array Value} {m : Nat} {q : Int} {k : IntKind} {v : Value} (ht : P.underlying t = some (.array n e)) (hd : P.underlying e = some d) (hag : aggD d = false) (he : (P.info? e).map (·.size) = some 1) (hx : a.eval x = .agg cs) (hi : a.eval i = .int k q) (hq : q = (m : Int)) (hm : m < n) (hv : cs[m]? = some v)
    (hg : Region.wanted { dst := dst, op := .index t x i, type := ty, pos := pos, after := after, guard := guard } (yielded ops a.tmps) = true)
    (h : wpList P ops Q rest (a.put dst (v)) w) : wpList P ops Q ({ dst := dst, op := .index t x i, type := ty, pos := pos, after := after, guard := guard } :: rest) a w :=
  wpList_ex hg (ex_indexV (ρ := a.eval) ht hd hag he hx hi hq hm hv w) h
end
end
/-! ### The walk of the text's order, step by step -/
section
variable {P : Program} {ops : Array Oper} {rest : List Oper} {a : Act} {dst : Option Tmp} {ty : TypeId} {pos : String} {after : Array Edge} {guard : Option (Nat × Bool)} {w : World} {Q : Exit → Act → World → Prop}
theorem wpL_skip {o : Oper} (hg : Region.wanted o (yielded ops a.tmps) = false) (h : wpList P ops Q rest (a.put o.dst undef) w) : wpList P ops Q (o :: rest) a w :=
  wpList_step fun K hK => by rw [if_neg (by rw [hg]; exact Bool.false_ne_true)]; exact hK _ _ h
theorem wpL_move {x : Operand} {v : Value} (hx : a.eval x = v)
    (hg : Region.wanted { dst := dst, op := .move x, type := ty, pos := pos, after := after, guard := guard } (yielded ops a.tmps) = true)
    (h : wpList P ops Q rest (a.put dst (v)) w) : wpList P ops Q ({ dst := dst, op := .move x, type := ty, pos := pos, after := after, guard := guard } :: rest) a w :=
  wpList_ex hg (ex_move (ρ := a.eval) hx w) h
theorem wpL_assign {x : Operand} {v : Value} (hx : a.eval x = v)
    (hg : Region.wanted { dst := dst, op := .assign x, type := ty, pos := pos, after := after, guard := guard } (yielded ops a.tmps) = true)
    (h : wpList P ops Q rest (a.put dst (v)) w) : wpList P ops Q ({ dst := dst, op := .assign x, type := ty, pos := pos, after := after, guard := guard } :: rest) a w :=
  wpList_ex hg (ex_assign (ρ := a.eval) hx w) h
theorem wpL_not {t : TypeId} {x : Operand} {b : Bool} (hx : a.eval x = .bool b)
    (hg : Region.wanted { dst := dst, op := .unOp .not t x, type := ty, pos := pos, after := after, guard := guard } (yielded ops a.tmps) = true)
    (h : wpList P ops Q rest (a.put dst (.bool !b)) w) : wpList P ops Q ({ dst := dst, op := .unOp .not t x, type := ty, pos := pos, after := after, guard := guard } :: rest) a w :=
  wpList_ex hg (ex_not (ρ := a.eval) hx w) h
theorem wpL_cmp {op : BinOp} {t yt : TypeId} {x y : Operand} {k : IntKind} {p q : Int} {b : Bool} (ho : isCmp op = true) (hx : a.eval x = .int k p) (hy : a.eval y = .int k q) (hb : cmpB op p q = b)
    (hg : Region.wanted { dst := dst, op := .binOp op t x y yt, type := ty, pos := pos, after := after, guard := guard } (yielded ops a.tmps) = true)
    (h : wpList P ops Q rest (a.put dst (.bool b)) w) : wpList P ops Q ({ dst := dst, op := .binOp op t x y yt, type := ty, pos := pos, after := after, guard := guard } :: rest) a w :=
  wpList_ex hg (ex_cmp (ρ := a.eval) ho hx hy hb w) h
theorem wpL_arith {op : BinOp} {t yt : TypeId} {x y : Operand} {k : IntKind} {p q r : Int} (ho : isArith op = true) (hx : a.eval x = .int k p) (hy : a.eval y = .int k q) (hr : k.wrap (arithI op p q) = r)
    (hg : Region.wanted { dst := dst, op := .binOp op t x y yt, type := ty, pos := pos, after := after, guard := guard } (yielded ops a.tmps) = true)
    (h : wpList P ops Q rest (a.put dst (.int k r)) w) : wpList P ops Q ({ dst := dst, op := .binOp op t x y yt, type := ty, pos := pos, after := after, guard := guard } :: rest) a w :=
  wpList_ex hg (ex_arith (ρ := a.eval) ho hx hy hr w) h
theorem wpL_len {t : TypeId} {e : TypeId} (ht : P.underlying t = some (.slice e)) {x : Operand} {ao : Option Addr} {n c : Nat} (hx : a.eval x = .slice ao n c)
    (hg : Region.wanted { dst := dst, op := .call { callee := .builtin .len, args := #[x], argTypes := #[t] }, type := ty, pos := pos, after := after, guard := guard } (yielded ops a.tmps) = true)
    (h : wpList P ops Q rest (a.put dst (.int .i64 n)) w) : wpList P ops Q ({ dst := dst, op := .call { callee := .builtin .len, args := #[x], argTypes := #[t] }, type := ty, pos := pos, after := after, guard := guard } :: rest) a w :=
  wpList_ex hg (ex_len (ρ := a.eval) ht hx w) h
theorem wpL_pick {c x y : Operand} {b : Bool} {v : Value} (hc : a.eval c = .bool b) (hv : (if b then a.eval x else a.eval y) = v) (hg : Region.wanted { dst := dst, op := .pick c x y, type := ty, pos := pos, after := after, guard := guard } (yielded ops a.tmps) = true)
    (h : wpList P ops Q rest (a.put dst v) w) : wpList P ops Q ({ dst := dst, op := .pick c x y, type := ty, pos := pos, after := after, guard := guard } :: rest) a w :=
  wpList_ex hg (by simp only [execOp, hc, asBool, Sem.run_bind, Sem.run_pure, Result.andThen_ok, hv]) h
theorem wpL_call {f : FuncId} (hf : Body P f) {xs : Array Operand} {ats : Array TypeId} {args : Array Value} {R : Ending → World → Prop} (ha : (xs.toList.map a.eval).toArray = args)
    (hc : Calls P f args w R)
    (hg : Region.wanted { dst := dst, op := .call { callee := .value (.func f), args := xs, argTypes := ats }, type := ty, pos := pos, after := after, guard := guard } (yielded ops a.tmps) = true)
    (h : ∀ e w', R e w' → ∃ v, e = .returned v ∧ wpList P ops Q rest (a.put dst v) w') : wpList P ops Q ({ dst := dst, op := .call { callee := .value (.func f), args := xs, argTypes := ats }, type := ty, pos := pos, after := after, guard := guard } :: rest) a w :=
  wpList_step fun K hK => by
    rw [if_pos hg]
    unfold Oper.wp
    rw [ex_call hf (args := args) (by rw [← ha, ← Array.toList_map, Array.toArray_toList]) w]
    simp only [Oper.upon]
    exact hc.mono fun e w' hR => by
      obtain ⟨v, rfl, hv⟩ := h e w' hR
      exact hK _ _ hv
end
end Go.Proofs.Ytohdkmgnnncpkaa
