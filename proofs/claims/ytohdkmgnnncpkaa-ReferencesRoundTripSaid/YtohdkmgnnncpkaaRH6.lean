/- Copies into the call's own memory. Over any program. No condition. -/
import Derived.Test.YtohdkmgnnncpkaaRH11
import Derived.Laws.CopyRow
set_option linter.unusedSimpArgs false
set_option linter.unusedVariables false
namespace Go.Proofs.Ytohdkmgnnncpkaa
open Go.RowKit
section
variable {P : Program} {ops : Array Oper} {rest : List Oper} {a : Act} {dst : Option Tmp} {ty : TypeId} {pos : String} {after : Array Edge} {guard : Option (Nat × Bool)} {w w0 : World} {S : List Nat} {bs bs' : List (Nat × Obj)} {rows : List Row} {Q : Exit → Act → World → Prop} {C : World → Prop} {K : Act → Prop}
theorem wpL_min {t ty' : TypeId} {x y : Operand} {p q r : Int} (hx : a.eval x = .int .i64 p) (hy : a.eval y = .int .i64 q) (hr : (if q < p then q else p) = r)
    (hg : Region.wanted { dst := dst, op := .call { callee := .builtin .min, args := #[x, y], argTypes := #[t, ty'] }, type := ty, pos := pos, after := after, guard := guard } (yielded ops a.tmps) = true)
    (h : wpList P ops Q rest (a.put dst (.int .i64 r)) w) : wpList P ops Q ({ dst := dst, op := .call { callee := .builtin .min, args := #[x, y], argTypes := #[t, ty'] }, type := ty, pos := pos, after := after, guard := guard } :: rest) a w := by
  refine wpList_ex hg ?_ h
  rw [BigFrame.execOp_builtin, BigFrame.builtin_min]
  simp only [List.map_toArray, List.map_cons, List.map_nil, hx, hy, Sem.run_bind, run_min_int2, hr, Result.andThen_ok, Sem.run_pure]
theorem wpL_sliceTo {t e : TypeId} {sz bytes : Nat} (hE : Elem P t e sz bytes) {x hi : Operand} {ao : Option Addr} {n c j : Nat} {q : Int} {k : IntKind} (hx : a.eval x = .slice ao n c) (hh : a.eval hi = .int k q) (hq : q = (j : Int)) (hj : j ≤ c)
    (hg : Region.wanted { dst := dst, op := .slice t x none (some hi) none, type := ty, pos := pos, after := after, guard := guard } (yielded ops a.tmps) = true)
    (h : wpList P ops Q rest (a.put dst (.slice ao j c)) w) : wpList P ops Q ({ dst := dst, op := .slice t x none (some hi) none, type := ty, pos := pos, after := after, guard := guard } :: rest) a w :=
  wpList_ex hg (ex_slice_to (ρ := a.eval) hE hx hh hq hj w) h
theorem wpL_eqlA {n : Nat} {t : TypeId} {b : Bool} {p q : Arr n} (hA : ArrT P t n) {x y : Operand} {yt : TypeId} (hx : a.eval x = p.val) (hy : a.eval y = q.val) (hb : (p == q) = b)
    (hg : Region.wanted { dst := dst, op := .binOp .eql t x y yt, type := ty, pos := pos, after := after, guard := guard } (yielded ops a.tmps) = true)
    (h : wpList P ops Q rest (a.put dst (.bool b)) w) : wpList P ops Q ({ dst := dst, op := .binOp .eql t x y yt, type := ty, pos := pos, after := after, guard := guard } :: rest) a w := by
  subst hb; exact wpList_eql_arr hA hx hy hg h
theorem wpL_neqA {n : Nat} {t : TypeId} {b : Bool} {p q : Arr n} (hA : ArrT P t n) {x y : Operand} {yt : TypeId} (hx : a.eval x = p.val) (hy : a.eval y = q.val) (hb : (!(p == q)) = b)
    (hg : Region.wanted { dst := dst, op := .binOp .neq t x y yt, type := ty, pos := pos, after := after, guard := guard } (yielded ops a.tmps) = true)
    (h : wpList P ops Q rest (a.put dst (.bool b)) w) : wpList P ops Q ({ dst := dst, op := .binOp .neq t x y yt, type := ty, pos := pos, after := after, guard := guard } :: rest) a w := by
  subst hb; exact wpList_neq_arr hA hx hy hg h
theorem wpQ_eqlA {n : Nat} {t : TypeId} {b : Bool} {p q : Arr n} (hA : ArrT P t n) {x y : Operand} {yt : TypeId} (hx : a.eval x = p.val) (hy : a.eval y = q.val) (hb : (p == q) = b)
    (hg : Region.wanted { dst := dst, op := .binOp .eql t x y yt, type := ty, pos := pos, after := after, guard := guard } (yielded ops a.tmps) = true)
    (h : wpQuiet P ops C K rest (a.put dst (.bool b))) : wpQuiet P ops C K ({ dst := dst, op := .binOp .eql t x y yt, type := ty, pos := pos, after := after, guard := guard } :: rest) a := by
  subst hb; exact wpQ_eql_arr hA hx hy hg h
theorem wpQ_neqA {n : Nat} {t : TypeId} {b : Bool} {p q : Arr n} (hA : ArrT P t n) {x y : Operand} {yt : TypeId} (hx : a.eval x = p.val) (hy : a.eval y = q.val) (hb : (!(p == q)) = b)
    (hg : Region.wanted { dst := dst, op := .binOp .neq t x y yt, type := ty, pos := pos, after := after, guard := guard } (yielded ops a.tmps) = true)
    (h : wpQuiet P ops C K rest (a.put dst (.bool b))) : wpQuiet P ops C K ({ dst := dst, op := .binOp .neq t x y yt, type := ty, pos := pos, after := after, guard := guard } :: rest) a := by
  subst hb; exact wpQ_neq_arr hA hx hy hg h
theorem wpL_arrayAt {t e : TypeId} {n m c : Nat} {ao : Option Addr} {x : Operand} (ht : P.underlying t = some (.array n e)) (hx : a.eval x = .slice ao m c) (hn : n ≤ m)
    (hg : Region.wanted { dst := dst, op := .sliceToArrayPointer t x, type := ty, pos := pos, after := after, guard := guard } (yielded ops a.tmps) = true)
    (h : wpList P ops Q rest (a.put dst (.pointer ao)) w) : wpList P ops Q ({ dst := dst, op := .sliceToArrayPointer t x, type := ty, pos := pos, after := after, guard := guard } :: rest) a w := by
  refine wpList_ex hg ?_ h
  have : ¬ m < n := by omega
  simp [execOp, hx, Instr.arrayAt, run_underlying ht, this]
/-- copy into a block of the call's own. -/
theorem wpL_copyOwn {t e : TypeId} {x y : Operand} {g n cap m cap2 : Nat} {a2 : Addr} {cs news : List Value} {t2 e2 : TypeId} (ht : P.underlying t = some (.slice e)) (hs : (P.info? e).map (·.size) = some 1) (hx : a.eval x = .slice (some ⟨g, 0, none⟩) n cap) (hy : a.eval y = .slice (some a2) m cap2)
    (hH : Holds w0 S bs rows w) (hsrc : ∀ j v, news[j]? = some v → w.cell? (a2.add j) = some v) (hnl : news.length = Nat.min m n) (ho : Turn bs g (objC cs e2) (objC (news ++ cs.drop news.length) e2) bs') (hfit : news.length ≤ cs.length) (h1 : ∀ v ∈ news, v.oneCell' = true)
    (hg : Region.wanted { dst := dst, op := .call { callee := .builtin .copy, args := #[x, y], argTypes := #[t, t2] }, type := ty, pos := pos, after := after, guard := guard } (yielded ops a.tmps) = true)
    (h : ∀ w', Holds w0 S bs' rows w' → wpList P ops Q rest (a.put dst (.int .i64 news.length)) w') : wpList P ops Q ({ dst := dst, op := .call { callee := .builtin .copy, args := #[x, y], argTypes := #[t, t2] }, type := ty, pos := pos, after := after, guard := guard } :: rest) a w := by
  have hblk : w.heap[g]? = some (.cells cs.toArray e2 (0, 0)) := hH.at ho.own
  have hr := run_copy_row (P := P) w t t2 ty e g 0 n cap a2 m cap2 cs.toArray e2 news ht hs hblk hnl hsrc (by simpa using hfit) h1
  simp only [Nat.zero_add, List.take_zero, List.nil_append] at hr
  refine wpList_ex hg (v := .int .i64 news.length) ?_ (h _ (hH.turn ho (setRow_heap w g cs.toArray _ e2 (0, 0) hblk) rfl rfl rfl (by simp) fun k _ hk => setRow_other w g k _ hk))
  rw [BigFrame.execOp_builtin, BigFrame.builtin_copy]
  simp only [List.map_toArray, List.map_cons, List.map_nil, hx, hy, Sem.run_bind, hr, Result.andThen_ok, Sem.run_pure]
  rfl
end
end Go.Proofs.Ytohdkmgnnncpkaa
